-- Printed by the session's own program wip/prx.py.
import Derived.Test.YtoemdmjdpikfbaaQFnExactVotersx0
import Derived.Test.YtoemdmjdpikfbaaQFnExactVotersx3
namespace Go.Proofs.Ytoemdmjdpikfbaa.QFnExactVoters
open Go.RowKit Go.Proofs.YtoemdmjdpikfbaaW.PrintWords Go.Proofs.YtoemdmjdpikfbaaW.PrintLast Go.Proofs.YtoemdmjdpikfbaaW.PrintMore
attribute [local go_sem] max2_int min2_int max_two min_two max_three min_three max_four min_four Go.Proofs.Ytoemdmjdpikfbaa.Set.isSome_setCell   -- for this text's walks alone
set_option linter.unusedVariables false
set_option linter.unusedSimpArgs false

-- squeezed
theorem u4_0 {P : Prop} (h : P := by repeat (first | (with_reducible first | exact HB.out | apply below_alloc | apply pw_below_drewN | apply below_drew1 | refine below_set ?_ GE172.out) | exact HB.out)) : P := h
theorem u4_1 {P : Prop} (h : P := by repeat (first | exact (Kd.C_below HR0_0.out HB.out) | (with_reducible refine Kd.C_alloc ?_ _) | (with_reducible refine Kd.C_drewN ?_ _) | (with_reducible refine Kd.C_drew ?_))) : P := h
theorem u4_2 {P : Prop} (h : P := by repeat (first | (with_reducible first | exact HB.out | apply below_alloc | apply pw_below_drewN | apply below_drew1 | refine below_set ?_ GE181.out) | exact HB.out)) : P := h
theorem u4_3 {P : Prop} (h : P := by repeat (first | exact (Kd.C_below HR0_1.out u4_0) | (with_reducible refine Kd.C_alloc ?_ _) | (with_reducible refine Kd.C_drewN ?_ _) | (with_reducible refine Kd.C_drew ?_))) : P := h
theorem u4_4 {P : Prop} (h : P := by repeat (first | (with_reducible first | exact HB.out | apply below_alloc | apply pw_below_drewN | apply below_drew1) | exact HB.out)) : P := h
theorem u4_5 {P : Prop} (h : P := by (with_reducible repeat (first | refine blk_drewN ?_ _ | refine blk_drew ?_ | refine blk_alloc ?_ _)); exact BK181.out) : P := h
theorem u4_6 {P : Prop} (h : P := by (with_reducible repeat (first | refine blk_drewN ?_ _ | refine blk_drew ?_ | refine blk_alloc ?_ _)); exact BK172.out) : P := h
theorem u4_7 {P : Prop} (h : P := by first | rfl | (simp; done) | (simp [*]; done)) : P := h
theorem u4_8 {P : Prop} (h : P := by repeat (first | exact (Kd.C_below HR0_2.out u4_0) | (with_reducible refine Kd.C_alloc ?_ _) | (with_reducible refine Kd.C_drewN ?_ _) | (with_reducible refine Kd.C_drew ?_))) : P := h
theorem u4_9 {P : Prop} (h : P := by first | (with_reducible assumption) | assumption) : P := h
theorem u4_10 {P : Prop} (h : P := by (with_reducible repeat (first | apply Kd.R_alloc | apply Kd.R_drewN | apply Kd.R_drew)); exact HO_3.out) : P := h
theorem u4_11 {P : Prop} (h : P := by (try simp only [List.map_toArray, List.map_cons, List.map_nil]); first | done | rfl | (simp only [List.length_drop, List.length_take]; rfl)) : P := h
theorem u4_12 {P : Prop} (h : P := by repeat (first | exact (Kd.C_below HR0_0.out u4_0) | (with_reducible refine Kd.C_alloc ?_ _) | (with_reducible refine Kd.C_drewN ?_ _) | (with_reducible refine Kd.C_drew ?_))) : P := h
theorem u4_13 {P : Prop} (h : P := by repeat (first | exact Drawn0.refl _ | apply Drawn0.step)) : P := h
theorem u4_14 {P : Prop} (h : P := by (with_reducible repeat (first | apply Kd.R_alloc | apply Kd.R_drewN | apply Kd.R_drew)); exact HO184.out) : P := h
/-! ### spec_ConfOk: function 53 -/
mutual
def spec_ConfOk.j0 : Nat → Bool → List Int → List Int → List Int → Option (Bool)
  | 0, _, _, _, _ => none
  | k + 1, x26, x173000, x173001, x173002 => if x26 = true then (some false) else (spec_ConfOk.l0 k 0 x173000 x173001 x173002)
def spec_ConfOk.l0 : Nat → Int → List Int → List Int → List Int → Option (Bool)
  | 0, _, _, _, _ => none
  | k + 1, x3, x173000, x173001, x173002 => if x3 < (x173002.length : Int) then (if 0 ≤ x3 then ((spec_l01Has.f k x173000 (rd x173002 x3)).bind fun t178 => (if t178 = true then (some false) else ((spec_l01Has.f k x173001 (rd x173002 x3)).bind fun t180 => (if t180 = true then (some false) else (spec_ConfOk.l0 k (wrap64 (x3 + 1)) x173000 x173001 x173002))))) else (none)) else (some true)
end
def spec_ConfOk.f (k : Nat) (l0_0 : List Int) (l0_1 : List Int) (l0_2 : List Int) : Option (Bool) := (spec_l06Set.f k l0_0).bind fun t173 => (if t173 = true then ((spec_l06Ids.f k l0_1).bind fun t174 => (if t174 = true then ((spec_l06Ids.f k l0_2).bind fun t175 => (if t175 = true then ((spec_l06Same.f k l0_0 l0_1).bind fun t176 => (spec_ConfOk.j0 k t176 l0_0 l0_1 l0_2)) else (spec_ConfOk.j0 k true l0_0 l0_1 l0_2))) else (spec_ConfOk.j0 k true l0_0 l0_1 l0_2))) else (spec_ConfOk.j0 k true l0_0 l0_1 l0_2))
theorem spec_ConfOk.mono_l : ∀ k, (∀ y0 y1 y2 y3, LeO (spec_ConfOk.j0 k y0 y1 y2 y3) (spec_ConfOk.j0 (k + 1) y0 y1 y2 y3)) ∧ (∀ y0 y1 y2 y3, LeO (spec_ConfOk.l0 k y0 y1 y2 y3) (spec_ConfOk.l0 (k + 1) y0 y1 y2 y3))
  | 0 => ⟨fun _ _ _ _ r h => by simp [spec_ConfOk.j0] at h, fun _ _ _ _ r h => by simp [spec_ConfOk.l0] at h⟩
  | k + 1 => by
    obtain ⟨ih0, ih1⟩ := spec_ConfOk.mono_l k
    refine ⟨?_, ?_⟩
    · intro y0 y1 y2 y3
      unfold spec_ConfOk.j0
      repeat' first
      | (with_reducible exact ih0 _ _ _ _)
      | (with_reducible exact ih1 _ _ _ _)
      | (with_reducible exact spec_l01Has.mono _ _ _)
      | (with_reducible exact spec_l06Ids.mono _ _)
      | (with_reducible exact spec_l06Same.mono _ _ _)
      | (with_reducible exact spec_l06Set.mono _ _)
      | (with_reducible exact LeO.refl _)
      | (with_reducible exact LeO.none _)
      | (with_reducible refine LeO.ite ?_ ?_)
      | (with_reducible refine LeO.bind ?_ (fun _ => ?_))
      | exact ih0 _ _ _ _
      | exact ih1 _ _ _ _
      | exact spec_l01Has.mono _ _ _
      | exact spec_l06Ids.mono _ _
      | exact spec_l06Same.mono _ _ _
      | exact spec_l06Set.mono _ _
      | exact LeO.none _
      | refine LeO.ite ?_ ?_
      | refine LeO.bind ?_ (fun _ => ?_)
    · intro y0 y1 y2 y3
      unfold spec_ConfOk.l0
      repeat' first
      | (with_reducible exact ih0 _ _ _ _)
      | (with_reducible exact ih1 _ _ _ _)
      | (with_reducible exact spec_l01Has.mono _ _ _)
      | (with_reducible exact spec_l06Ids.mono _ _)
      | (with_reducible exact spec_l06Same.mono _ _ _)
      | (with_reducible exact spec_l06Set.mono _ _)
      | (with_reducible exact LeO.refl _)
      | (with_reducible exact LeO.none _)
      | (with_reducible refine LeO.ite ?_ ?_)
      | (with_reducible refine LeO.bind ?_ (fun _ => ?_))
      | exact ih0 _ _ _ _
      | exact ih1 _ _ _ _
      | exact spec_l01Has.mono _ _ _
      | exact spec_l06Ids.mono _ _
      | exact spec_l06Same.mono _ _ _
      | exact spec_l06Set.mono _ _
      | exact LeO.none _
      | refine LeO.ite ?_ ?_
      | refine LeO.bind ?_ (fun _ => ?_)
theorem spec_ConfOk.mono : ∀ a0 a1 a2 k, LeO (spec_ConfOk.f k a0 a1 a2) (spec_ConfOk.f (k + 1) a0 a1 a2) := by
  intro a0 a1 a2 k
  obtain ⟨ih0, ih1⟩ := spec_ConfOk.mono_l k
  unfold spec_ConfOk.f
  repeat' first
      | (with_reducible exact ih0 _ _ _ _)
      | (with_reducible exact ih1 _ _ _ _)
      | (with_reducible exact spec_l01Has.mono _ _ _)
      | (with_reducible exact spec_l06Ids.mono _ _)
      | (with_reducible exact spec_l06Same.mono _ _ _)
      | (with_reducible exact spec_l06Set.mono _ _)
      | (with_reducible exact LeO.refl _)
      | (with_reducible exact LeO.none _)
      | (with_reducible refine LeO.ite ?_ ?_)
      | (with_reducible refine LeO.bind ?_ (fun _ => ?_))
      | exact ih0 _ _ _ _
      | exact ih1 _ _ _ _
      | exact spec_l01Has.mono _ _ _
      | exact spec_l06Ids.mono _ _
      | exact spec_l06Same.mono _ _ _
      | exact spec_l06Set.mono _ _
      | exact LeO.none _
      | refine LeO.ite ?_ ?_
      | refine LeO.bind ?_ (fun _ => ?_)
set_option maxHeartbeats 8000000 in
set_option maxRecDepth 100000 in
theorem spec_ConfOk.calls (k : Nat) (A0_0 : Option Addr) (c0_0 : Nat) (l0_0 : List Int) (A0_1 : Option Addr) (c0_1 : Nat) (l0_1 : List Int) (A0_2 : Option Addr) (c0_2 : Nat) (l0_2 : List Int) (r : Bool) (w : World) (hr0_0 : Kd.C (Kd.int .i64) w A0_0 l0_0.length l0_0) (hc0_0 : l0_0.length ≤ c0_0) (hr0_1 : Kd.C (Kd.int .i64) w A0_1 l0_1.length l0_1) (hc0_1 : l0_1.length ≤ c0_1) (hr0_2 : Kd.C (Kd.int .i64) w A0_2 l0_2.length l0_2) (hc0_2 : l0_2.length ≤ c0_2) (h : spec_ConfOk.f k l0_0 l0_1 l0_2 = some r) :
    Calls Try.prog 53 #[.agg #[.slice A0_0 l0_0.length c0_0, .slice A0_1 l0_1.length c0_1, .slice A0_2 l0_2.length c0_2]] w fun e w' => e = .returned (.bool r) ∧ Below w.heap.size w w' := by
  have hu26 := Try.underlying26
  have HR0_0 := Aside0.mk hr0_0
  have HC0_0 := Aside0.mk hc0_0
  clear hr0_0 hc0_0
  have HR0_1 := Aside0.mk hr0_1
  have HC0_1 := Aside0.mk hc0_1
  clear hr0_1 hc0_1
  have HR0_2 := Aside0.mk hr0_2
  have HC0_2 := Aside0.mk hc0_2
  clear hr0_2 hc0_2
  have HB := Aside0.mk (Below.refl w.heap.size w)
  have H : ((spec_l06Set.f k l0_0).bind fun t173 => (if t173 = true then ((spec_l06Ids.f k l0_1).bind fun t174 => (if t174 = true then ((spec_l06Ids.f k l0_2).bind fun t175 => (if t175 = true then ((spec_l06Same.f k l0_0 l0_1).bind fun t176 => (spec_ConfOk.j0 k t176 l0_0 l0_1 l0_2)) else (spec_ConfOk.j0 k true l0_0 l0_1 l0_2))) else (spec_ConfOk.j0 k true l0_0 l0_1 l0_2))) else (spec_ConfOk.j0 k true l0_0 l0_1 l0_2))) = some r := h
  clear h
  have HC2 := Aside0.mk H
  clear H
  go_enter Try.func53, Try.ntmps53
  go_upto_region 1 with (first | ((with_reducible refine gate_dst (N := 1) rfl ?_); refine box_event ?hg (N := 1) ?hd (cs := #[.slice A0_0 l0_0.length c0_0, .slice A0_1 l0_1.length c0_1, .slice A0_2 l0_2.length c0_2]) (t := 26) ?hr ?_; (case hd => rfl); (case hg => rfl); (case hr => first | (go_simp; done) | (go_simp; rfl)); intro gb172 hg w3 hbox hb; have n0_ := Aside0.mk (below_step u4_4 hb); have n1_ := Aside0.mk (hbox); have n2_ := Aside0.mk ((by rw [hg]; exact (below_size u4_4) : w.heap.size ≤ gb172)); have n3_ := Aside0.mk ((by rw [hg]; exact (below_size u4_4) : w.heap.size ≤ gb172)); clear HB; have HB := n0_; have BK172 := n1_; have GW172 := n2_; have GE172 := n3_; clear n0_ n1_ n2_ n3_; clear hb hbox hg))
  repeat (go_quiet (first | ((with_reducible refine gate_dst (N := 1) rfl ?_); refine box_event ?hg (N := 1) ?hd (cs := #[.slice A0_0 l0_0.length c0_0, .slice A0_1 l0_1.length c0_1, .slice A0_2 l0_2.length c0_2]) (t := 26) ?hr ?_; (case hd => rfl); (case hg => rfl); (case hr => first | (go_simp; done) | (go_simp; rfl)); intro gb172 hg w3 hbox hb; have n0_ := Aside0.mk (below_step u4_4 hb); have n1_ := Aside0.mk (hbox); have n2_ := Aside0.mk ((by rw [hg]; exact (below_size u4_4) : w.heap.size ≤ gb172)); have n3_ := Aside0.mk ((by rw [hg]; exact (below_size u4_4) : w.heap.size ≤ gb172)); clear HB; have HB := n0_; have BK172 := n1_; have GW172 := n2_; have GE172 := n3_; clear n0_ n1_ n2_ n3_; clear hb hbox hg)); go_upto_region 1 with (first | ((with_reducible refine gate_dst (N := 1) rfl ?_); refine box_event ?hg (N := 1) ?hd (cs := #[.slice A0_0 l0_0.length c0_0, .slice A0_1 l0_1.length c0_1, .slice A0_2 l0_2.length c0_2]) (t := 26) ?hr ?_; (case hd => rfl); (case hg => rfl); (case hr => first | (go_simp; done) | (go_simp; rfl)); intro gb172 hg w3 hbox hb; have n0_ := Aside0.mk (below_step u4_4 hb); have n1_ := Aside0.mk (hbox); have n2_ := Aside0.mk ((by rw [hg]; exact (below_size u4_4) : w.heap.size ≤ gb172)); have n3_ := Aside0.mk ((by rw [hg]; exact (below_size u4_4) : w.heap.size ≤ gb172)); clear HB; have HB := n0_; have BK172 := n1_; have GW172 := n2_; have GE172 := n3_; clear n0_ n1_ n2_ n3_; clear hb hbox hg)))
  (try simp only [Act.put, List.setIfInBounds_toArray, List.set_cons_zero, List.set_cons_succ])
  go_cut [26] (fun v26 wc => ∃ (kq : Nat) (x26_1 : Bool), v26 = .bool x26_1 ∧ Aside0 (spec_ConfOk.j0 kq x26_1 l0_0 l0_1 l0_2 = some r) ∧ Aside0 (kq ≤ k) ∧ Aside0 (wc.heap[gb172]? = some (.cells #[(.slice A0_0 l0_0.length c0_0), (.slice A0_1 l0_1.length c0_1), (.slice A0_2 l0_2.length c0_2)] 26 (0, 0))) ∧ Aside0 (Below w.heap.size w wc))
  case first =>
    have H := HC2.out
    clear HC2
    replace H := Option.bind_eq_some_iff.mp H
    obtain ⟨t173, A40, H⟩ := H
    have A4 := Aside0.mk A40
    clear A40
    by_cases c5 : t173 = true
    rotate_left
    · replace c5 := Bool.eq_false_iff.mpr c5
      subst c5
      rw [if_neg (show ¬ (false = true) by decide)] at H
      have H' := Aside0.mk H
      clear H
      have hcz14_0 : w3.cell? ⟨gb172, 0, none⟩ = some (.slice A0_0 l0_0.length c0_0) := (blk_cell BK172.out 0).trans rfl
      have hcz14_1 : w3.cell? ⟨gb172, 1, none⟩ = some (.slice A0_1 l0_1.length c0_1) := (blk_cell BK172.out 1).trans rfl
      have hcz14_2 : w3.cell? ⟨gb172, 2, none⟩ = some (.slice A0_2 l0_2.length c0_2) := (blk_cell BK172.out 2).trans rfl
      have hfz14_0 := blk_frozen BK172.out 0
      have hfz14_1 := blk_frozen BK172.out 1
      have hfz14_2 := blk_frozen BK172.out 2
      go_wp2_with (first | (first | (go_at_call 81; (with_reducible refine (spec_l06Set.calls k _ _ l0_0 false _ ?side1 ?side2 A4.out).mono ?_); (case side1 => exact u4_1); (case side2 => exact HC0_0.out); rintro e w' ⟨rfl, ⟨nd, rfl⟩⟩; (try first | exact ⟨rfl, _, World.drewN_drewN _ _ _⟩ | exact ⟨rfl, _, Eq.trans (World.drewN_drewN _ _ _) (congrArg (World.drewN _) (Nat.add_assoc _ _ _))⟩))) | go_quiet (first | (go_at_call 81; (with_reducible refine (spec_l06Set.calls k _ _ l0_0 false _ ?side1 ?side2 A4.out).mono ?_); (case side1 => exact u4_1); (case side2 => exact HC0_0.out); rintro e w' ⟨rfl, ⟨nd, rfl⟩⟩; (try first | exact ⟨rfl, _, World.drewN_drewN _ _ _⟩ | exact ⟨rfl, _, Eq.trans (World.drewN_drewN _ _ _) (congrArg (World.drewN _) (Nat.add_assoc _ _ _))⟩))))
      go_meet
      case rel => exact ⟨_, (true), u4_7, H', ⟨by first | omega | exact Nat.le_refl _⟩, ⟨u4_6⟩, ⟨u4_0⟩⟩
    subst c5
    rw [if_pos rfl] at H
    replace H := Option.bind_eq_some_iff.mp H
    obtain ⟨t174, A60, H⟩ := H
    have A6 := Aside0.mk A60
    clear A60
    by_cases c7 : t174 = true
    rotate_left
    · replace c7 := Bool.eq_false_iff.mpr c7
      subst c7
      rw [if_neg (show ¬ (false = true) by decide)] at H
      have H' := Aside0.mk H
      clear H
      have hcz13_0 : w3.cell? ⟨gb172, 0, none⟩ = some (.slice A0_0 l0_0.length c0_0) := (blk_cell BK172.out 0).trans rfl
      have hcz13_1 : w3.cell? ⟨gb172, 1, none⟩ = some (.slice A0_1 l0_1.length c0_1) := (blk_cell BK172.out 1).trans rfl
      have hcz13_2 : w3.cell? ⟨gb172, 2, none⟩ = some (.slice A0_2 l0_2.length c0_2) := (blk_cell BK172.out 2).trans rfl
      have hfz13_0 := blk_frozen BK172.out 0
      have hfz13_1 := blk_frozen BK172.out 1
      have hfz13_2 := blk_frozen BK172.out 2
      go_wp2_with (first | (first | (go_at_call 81; (with_reducible refine (spec_l06Set.calls k _ _ l0_0 true _ ?side1 ?side2 A4.out).mono ?_); (case side1 => exact u4_1); (case side2 => exact HC0_0.out); rintro e w' ⟨rfl, ⟨nd, rfl⟩⟩; (try first | exact ⟨rfl, _, World.drewN_drewN _ _ _⟩ | exact ⟨rfl, _, Eq.trans (World.drewN_drewN _ _ _) (congrArg (World.drewN _) (Nat.add_assoc _ _ _))⟩)) | (go_at_call 82; (with_reducible refine (spec_l06Ids.calls k _ _ l0_1 false _ ?side1 ?side2 A6.out).mono ?_); (case side1 => exact u4_3); (case side2 => exact HC0_1.out); rintro e w' ⟨rfl, ⟨nd, rfl⟩⟩; (try first | exact ⟨rfl, _, World.drewN_drewN _ _ _⟩ | exact ⟨rfl, _, Eq.trans (World.drewN_drewN _ _ _) (congrArg (World.drewN _) (Nat.add_assoc _ _ _))⟩))) | go_quiet (first | (go_at_call 81; (with_reducible refine (spec_l06Set.calls k _ _ l0_0 true _ ?side1 ?side2 A4.out).mono ?_); (case side1 => exact u4_1); (case side2 => exact HC0_0.out); rintro e w' ⟨rfl, ⟨nd, rfl⟩⟩; (try first | exact ⟨rfl, _, World.drewN_drewN _ _ _⟩ | exact ⟨rfl, _, Eq.trans (World.drewN_drewN _ _ _) (congrArg (World.drewN _) (Nat.add_assoc _ _ _))⟩)) | (go_at_call 82; (with_reducible refine (spec_l06Ids.calls k _ _ l0_1 false _ ?side1 ?side2 A6.out).mono ?_); (case side1 => exact u4_3); (case side2 => exact HC0_1.out); rintro e w' ⟨rfl, ⟨nd, rfl⟩⟩; (try first | exact ⟨rfl, _, World.drewN_drewN _ _ _⟩ | exact ⟨rfl, _, Eq.trans (World.drewN_drewN _ _ _) (congrArg (World.drewN _) (Nat.add_assoc _ _ _))⟩))))
      go_meet
      case rel => exact ⟨_, (true), u4_7, H', ⟨by first | omega | exact Nat.le_refl _⟩, ⟨u4_6⟩, ⟨u4_0⟩⟩
    subst c7
    rw [if_pos rfl] at H
    replace H := Option.bind_eq_some_iff.mp H
    obtain ⟨t175, A80, H⟩ := H
    have A8 := Aside0.mk A80
    clear A80
    by_cases c9 : t175 = true
    rotate_left
    · replace c9 := Bool.eq_false_iff.mpr c9
      subst c9
      rw [if_neg (show ¬ (false = true) by decide)] at H
      have H' := Aside0.mk H
      clear H
      have hcz12_0 : w3.cell? ⟨gb172, 0, none⟩ = some (.slice A0_0 l0_0.length c0_0) := (blk_cell BK172.out 0).trans rfl
      have hcz12_1 : w3.cell? ⟨gb172, 1, none⟩ = some (.slice A0_1 l0_1.length c0_1) := (blk_cell BK172.out 1).trans rfl
      have hcz12_2 : w3.cell? ⟨gb172, 2, none⟩ = some (.slice A0_2 l0_2.length c0_2) := (blk_cell BK172.out 2).trans rfl
      have hfz12_0 := blk_frozen BK172.out 0
      have hfz12_1 := blk_frozen BK172.out 1
      have hfz12_2 := blk_frozen BK172.out 2
      go_wp2_with (first | (first | (go_at_call 81; (with_reducible refine (spec_l06Set.calls k _ _ l0_0 true _ ?side1 ?side2 A4.out).mono ?_); (case side1 => exact u4_1); (case side2 => exact HC0_0.out); rintro e w' ⟨rfl, ⟨nd, rfl⟩⟩; (try first | exact ⟨rfl, _, World.drewN_drewN _ _ _⟩ | exact ⟨rfl, _, Eq.trans (World.drewN_drewN _ _ _) (congrArg (World.drewN _) (Nat.add_assoc _ _ _))⟩)) | (go_at_call 82; (with_reducible refine (spec_l06Ids.calls k _ _ l0_1 true _ ?side1 ?side2 A6.out).mono ?_); (case side1 => exact u4_3); (case side2 => exact HC0_1.out); rintro e w' ⟨rfl, ⟨nd, rfl⟩⟩; (try first | exact ⟨rfl, _, World.drewN_drewN _ _ _⟩ | exact ⟨rfl, _, Eq.trans (World.drewN_drewN _ _ _) (congrArg (World.drewN _) (Nat.add_assoc _ _ _))⟩)) | (go_at_call 82; (with_reducible refine (spec_l06Ids.calls k _ _ l0_2 false _ ?side1 ?side2 A8.out).mono ?_); (case side1 => exact u4_8); (case side2 => exact HC0_2.out); rintro e w' ⟨rfl, ⟨nd, rfl⟩⟩; (try first | exact ⟨rfl, _, World.drewN_drewN _ _ _⟩ | exact ⟨rfl, _, Eq.trans (World.drewN_drewN _ _ _) (congrArg (World.drewN _) (Nat.add_assoc _ _ _))⟩))) | go_quiet (first | (go_at_call 81; (with_reducible refine (spec_l06Set.calls k _ _ l0_0 true _ ?side1 ?side2 A4.out).mono ?_); (case side1 => exact u4_1); (case side2 => exact HC0_0.out); rintro e w' ⟨rfl, ⟨nd, rfl⟩⟩; (try first | exact ⟨rfl, _, World.drewN_drewN _ _ _⟩ | exact ⟨rfl, _, Eq.trans (World.drewN_drewN _ _ _) (congrArg (World.drewN _) (Nat.add_assoc _ _ _))⟩)) | (go_at_call 82; (with_reducible refine (spec_l06Ids.calls k _ _ l0_1 true _ ?side1 ?side2 A6.out).mono ?_); (case side1 => exact u4_3); (case side2 => exact HC0_1.out); rintro e w' ⟨rfl, ⟨nd, rfl⟩⟩; (try first | exact ⟨rfl, _, World.drewN_drewN _ _ _⟩ | exact ⟨rfl, _, Eq.trans (World.drewN_drewN _ _ _) (congrArg (World.drewN _) (Nat.add_assoc _ _ _))⟩)) | (go_at_call 82; (with_reducible refine (spec_l06Ids.calls k _ _ l0_2 false _ ?side1 ?side2 A8.out).mono ?_); (case side1 => exact u4_8); (case side2 => exact HC0_2.out); rintro e w' ⟨rfl, ⟨nd, rfl⟩⟩; (try first | exact ⟨rfl, _, World.drewN_drewN _ _ _⟩ | exact ⟨rfl, _, Eq.trans (World.drewN_drewN _ _ _) (congrArg (World.drewN _) (Nat.add_assoc _ _ _))⟩))))
      go_meet
      case rel => exact ⟨_, (true), u4_7, H', ⟨by first | omega | exact Nat.le_refl _⟩, ⟨u4_6⟩, ⟨u4_0⟩⟩
    subst c9
    rw [if_pos rfl] at H
    replace H := Option.bind_eq_some_iff.mp H
    obtain ⟨t176, A100, H⟩ := H
    replace H : (spec_ConfOk.j0 k t176 l0_0 l0_1 l0_2) = some r := H
    have A10 := Aside0.mk A100
    clear A100
    have H' := Aside0.mk H
    clear H
    have hcz11_0 : w3.cell? ⟨gb172, 0, none⟩ = some (.slice A0_0 l0_0.length c0_0) := (blk_cell BK172.out 0).trans rfl
    have hcz11_1 : w3.cell? ⟨gb172, 1, none⟩ = some (.slice A0_1 l0_1.length c0_1) := (blk_cell BK172.out 1).trans rfl
    have hcz11_2 : w3.cell? ⟨gb172, 2, none⟩ = some (.slice A0_2 l0_2.length c0_2) := (blk_cell BK172.out 2).trans rfl
    have hfz11_0 := blk_frozen BK172.out 0
    have hfz11_1 := blk_frozen BK172.out 1
    have hfz11_2 := blk_frozen BK172.out 2
    go_wp2_with (first | (first | (go_at_call 81; (with_reducible refine (spec_l06Set.calls k _ _ l0_0 true _ ?side1 ?side2 A4.out).mono ?_); (case side1 => exact u4_1); (case side2 => exact HC0_0.out); rintro e w' ⟨rfl, ⟨nd, rfl⟩⟩; (try first | exact ⟨rfl, _, World.drewN_drewN _ _ _⟩ | exact ⟨rfl, _, Eq.trans (World.drewN_drewN _ _ _) (congrArg (World.drewN _) (Nat.add_assoc _ _ _))⟩)) | (go_at_call 82; (with_reducible refine (spec_l06Ids.calls k _ _ l0_1 true _ ?side1 ?side2 A6.out).mono ?_); (case side1 => exact u4_3); (case side2 => exact HC0_1.out); rintro e w' ⟨rfl, ⟨nd, rfl⟩⟩; (try first | exact ⟨rfl, _, World.drewN_drewN _ _ _⟩ | exact ⟨rfl, _, Eq.trans (World.drewN_drewN _ _ _) (congrArg (World.drewN _) (Nat.add_assoc _ _ _))⟩)) | (go_at_call 82; (with_reducible refine (spec_l06Ids.calls k _ _ l0_2 true _ ?side1 ?side2 A8.out).mono ?_); (case side1 => exact u4_8); (case side2 => exact HC0_2.out); rintro e w' ⟨rfl, ⟨nd, rfl⟩⟩; (try first | exact ⟨rfl, _, World.drewN_drewN _ _ _⟩ | exact ⟨rfl, _, Eq.trans (World.drewN_drewN _ _ _) (congrArg (World.drewN _) (Nat.add_assoc _ _ _))⟩)) | (go_at_call 57; (with_reducible refine (spec_l06Same.calls k _ _ l0_0 _ _ l0_1 t176 _ ?side1 ?side2 ?side3 ?side4 A10.out).mono ?_); (case side1 => exact u4_12); (case side2 => exact HC0_0.out); (case side3 => exact u4_3); (case side4 => exact HC0_1.out); rintro e w' ⟨rfl, ⟨nd, rfl⟩⟩; (try first | exact ⟨rfl, _, World.drewN_drewN _ _ _⟩ | exact ⟨rfl, _, Eq.trans (World.drewN_drewN _ _ _) (congrArg (World.drewN _) (Nat.add_assoc _ _ _))⟩))) | go_quiet (first | (go_at_call 81; (with_reducible refine (spec_l06Set.calls k _ _ l0_0 true _ ?side1 ?side2 A4.out).mono ?_); (case side1 => exact u4_1); (case side2 => exact HC0_0.out); rintro e w' ⟨rfl, ⟨nd, rfl⟩⟩; (try first | exact ⟨rfl, _, World.drewN_drewN _ _ _⟩ | exact ⟨rfl, _, Eq.trans (World.drewN_drewN _ _ _) (congrArg (World.drewN _) (Nat.add_assoc _ _ _))⟩)) | (go_at_call 82; (with_reducible refine (spec_l06Ids.calls k _ _ l0_1 true _ ?side1 ?side2 A6.out).mono ?_); (case side1 => exact u4_3); (case side2 => exact HC0_1.out); rintro e w' ⟨rfl, ⟨nd, rfl⟩⟩; (try first | exact ⟨rfl, _, World.drewN_drewN _ _ _⟩ | exact ⟨rfl, _, Eq.trans (World.drewN_drewN _ _ _) (congrArg (World.drewN _) (Nat.add_assoc _ _ _))⟩)) | (go_at_call 82; (with_reducible refine (spec_l06Ids.calls k _ _ l0_2 true _ ?side1 ?side2 A8.out).mono ?_); (case side1 => exact u4_8); (case side2 => exact HC0_2.out); rintro e w' ⟨rfl, ⟨nd, rfl⟩⟩; (try first | exact ⟨rfl, _, World.drewN_drewN _ _ _⟩ | exact ⟨rfl, _, Eq.trans (World.drewN_drewN _ _ _) (congrArg (World.drewN _) (Nat.add_assoc _ _ _))⟩)) | (go_at_call 57; (with_reducible refine (spec_l06Same.calls k _ _ l0_0 _ _ l0_1 t176 _ ?side1 ?side2 ?side3 ?side4 A10.out).mono ?_); (case side1 => exact u4_12); (case side2 => exact HC0_0.out); (case side3 => exact u4_3); (case side4 => exact HC0_1.out); rintro e w' ⟨rfl, ⟨nd, rfl⟩⟩; (try first | exact ⟨rfl, _, World.drewN_drewN _ _ _⟩ | exact ⟨rfl, _, Eq.trans (World.drewN_drewN _ _ _) (congrArg (World.drewN _) (Nat.add_assoc _ _ _))⟩))))
    go_meet
    case rel => exact ⟨_, (t176), u4_7, H', ⟨by first | omega | exact Nat.le_refl _⟩, ⟨u4_6⟩, ⟨u4_0⟩⟩
  clear HC2
  try clear p2
  try clear c5
  try clear c7
  try clear c9
  try clear hcz11_0
  try clear hcz11_1
  try clear hcz11_2
  try clear hcz12_0
  try clear hcz12_1
  try clear hcz12_2
  try clear hcz13_0
  try clear hcz13_1
  try clear hcz13_2
  try clear hcz14_0
  try clear hcz14_1
  try clear hcz14_2
  try clear hfz11_0
  try clear hfz11_1
  try clear hfz11_2
  try clear hfz12_0
  try clear hfz12_1
  try clear hfz12_2
  try clear hfz13_0
  try clear hfz13_1
  try clear hfz13_2
  try clear hfz14_0
  try clear hfz14_1
  try clear hfz14_2
  obtain ⟨kq, x26_1, rfl, HA, HJ1, BK172, HB⟩ := hcut
  cases kq with
  | zero => exact absurd HA.out (by simp [spec_ConfOk.j0])
  | succ kj1 =>
    have H := HA.out
    clear HA
    simp only [spec_ConfOk.j0] at H
    by_cases c15 : x26_1 = true
    · subst c15
      rw [if_pos rfl] at H
      obtain rfl := Option.some.inj H
      go_wp2
      repeat (go_quiet (fail); try go_wp2)
      go_ret
      exact ⟨by first | rfl | (simp [errW_none, errW_some] <;> rfl) | (simp [*, errW_none, errW_some] <;> rfl), u4_0⟩
    replace c15 := Bool.eq_false_iff.mpr c15
    subst c15
    rw [if_neg (show ¬ (false = true) by decide)] at H
    have H' := Aside0.mk H
    clear H
    go_wp2
    repeat (go_quiet (fail); try go_wp2)
    go_loopg [3] kj1 (fun kq v3 w' => ∃ (x3_2 : Int), v3 = .int .i64 x3_2 ∧ Aside0 (spec_ConfOk.l0 kq x3_2 l0_0 l0_1 l0_2 = some r) ∧ Aside0 (kq ≤ kj1) ∧ Aside0 (w'.heap[gb172]? = some (.cells #[(.slice A0_0 l0_0.length c0_0), (.slice A0_1 l0_1.length c0_1), (.slice A0_2 l0_2.length c0_2)] 26 (0, 0))) ∧ Aside0 (Below w.heap.size w w'))
    case atStart => exact ⟨(0), u4_7, H', ⟨Nat.le_refl _⟩, ⟨u4_6⟩, ⟨u4_0⟩⟩
    clear H'
    try clear c1
    try clear p2
    try clear c5
    try clear c7
    try clear c9
    try clear c15
    try clear hcz11_0
    try clear hcz11_1
    try clear hcz11_2
    try clear hcz12_0
    try clear hcz12_1
    try clear hcz12_2
    try clear hcz13_0
    try clear hcz13_1
    try clear hcz13_2
    try clear hcz14_0
    try clear hcz14_1
    try clear hcz14_2
    try clear hfz11_0
    try clear hfz11_1
    try clear hfz11_2
    try clear hfz12_0
    try clear hfz12_1
    try clear hfz12_2
    try clear hfz13_0
    try clear hfz13_1
    try clear hfz13_2
    try clear hfz14_0
    try clear hfz14_1
    try clear hfz14_2
    try clear p2
    obtain ⟨x3_2, rfl, HA, HK2, BK172, HB⟩ := hrel
    cases gk with
    | zero => exact absurd HA.out (by simp [spec_ConfOk.l0])
    | succ k2 =>
      have H := HA.out
      clear HA
      simp only [spec_ConfOk.l0] at H
      by_cases c16 : x3_2 < (l0_2.length : Int)
      rotate_left
      · rw [if_neg c16] at H
        have c16b0 : decide (x3_2 < (l0_2.length : Int)) = false := decide_eq_false c16
        clear c16
        obtain rfl := Option.some.inj H
        have hcz24_0 : wr.cell? ⟨gb172, 0, none⟩ = some (.slice A0_0 l0_0.length c0_0) := (blk_cell BK172.out 0).trans rfl
        have hcz24_1 : wr.cell? ⟨gb172, 1, none⟩ = some (.slice A0_1 l0_1.length c0_1) := (blk_cell BK172.out 1).trans rfl
        have hcz24_2 : wr.cell? ⟨gb172, 2, none⟩ = some (.slice A0_2 l0_2.length c0_2) := (blk_cell BK172.out 2).trans rfl
        have hfz24_0 := blk_frozen BK172.out 0
        have hfz24_1 := blk_frozen BK172.out 1
        have hfz24_2 := blk_frozen BK172.out 2
        go_wp2
        repeat (go_quiet (fail); try go_wp2)
        go_ret
        exact ⟨by first | rfl | (simp [errW_none, errW_some] <;> rfl) | (simp [*, errW_none, errW_some] <;> rfl), u4_0⟩
      rw [if_pos c16] at H
      have c16b0 : decide (x3_2 < (l0_2.length : Int)) = true := decide_eq_true c16
      clear c16
      by_cases c17 : 0 ≤ x3_2
      rotate_left
      · rw [if_neg c17] at H
        exact absurd H (by simp)
      rw [if_pos c17] at H
      have c17b0 : decide (0 ≤ x3_2) = true := decide_eq_true c17
      clear c17
      replace H := Option.bind_eq_some_iff.mp H
      obtain ⟨t178, A180, H⟩ := H
      have A18 := Aside0.mk A180
      clear A180
      by_cases c19 : t178 = true
      · subst c19
        rw [if_pos rfl] at H
        obtain rfl := Option.some.inj H
        have hcz20_0 : wr.cell? ⟨gb172, 0, none⟩ = some (.slice A0_0 l0_0.length c0_0) := (blk_cell BK172.out 0).trans rfl
        have hcz20_1 : wr.cell? ⟨gb172, 1, none⟩ = some (.slice A0_1 l0_1.length c0_1) := (blk_cell BK172.out 1).trans rfl
        have hcz20_2 : wr.cell? ⟨gb172, 2, none⟩ = some (.slice A0_2 l0_2.length c0_2) := (blk_cell BK172.out 2).trans rfl
        have hfz20_0 := blk_frozen BK172.out 0
        have hfz20_1 := blk_frozen BK172.out 1
        have hfz20_2 := blk_frozen BK172.out 2
        have p177 : 0 ≤ (x3_2 : Int) := of_decide_eq_true u4_9
        have q177 : x3_2 < (l0_2.length : Int) := of_decide_eq_true u4_9
        obtain ⟨ad177, e177, hx177_0⟩ := Kd.at_int HR0_2.out x3_2 p177 q177
        cases e177
        replace hx177_0 := (HB.out.cell (World.block_lt_of_cell? w _ hx177_0)).trans hx177_0
        replace p177 := eq_true p177
        replace q177 := eq_true q177
        go_wp2_with (first | (first | (go_at_call 54; (with_reducible refine (spec_l01Has.calls k2 _ _ l0_0 (rd l0_2 x3_2) true _ ?side1 ?side2 A18.out).mono ?_); (case side1 => exact u4_1); (case side2 => exact HC0_0.out); rintro e w' ⟨rfl, ⟨nd, rfl⟩⟩; (try first | exact ⟨rfl, _, World.drewN_drewN _ _ _⟩ | exact ⟨rfl, _, Eq.trans (World.drewN_drewN _ _ _) (congrArg (World.drewN _) (Nat.add_assoc _ _ _))⟩))) | go_quiet (first | (go_at_call 54; (with_reducible refine (spec_l01Has.calls k2 _ _ l0_0 (rd l0_2 x3_2) true _ ?side1 ?side2 A18.out).mono ?_); (case side1 => exact u4_1); (case side2 => exact HC0_0.out); rintro e w' ⟨rfl, ⟨nd, rfl⟩⟩; (try first | exact ⟨rfl, _, World.drewN_drewN _ _ _⟩ | exact ⟨rfl, _, Eq.trans (World.drewN_drewN _ _ _) (congrArg (World.drewN _) (Nat.add_assoc _ _ _))⟩))))
        go_ret
        exact ⟨by first | rfl | (simp [errW_none, errW_some] <;> rfl) | (simp [*, errW_none, errW_some] <;> rfl), u4_0⟩
      replace c19 := Bool.eq_false_iff.mpr c19
      subst c19
      rw [if_neg (show ¬ (false = true) by decide)] at H
      replace H := Option.bind_eq_some_iff.mp H
      obtain ⟨t180, A210, H⟩ := H
      replace H : (if t180 = true then (some false) else (spec_ConfOk.l0 k2 (wrap64 (x3_2 + 1)) l0_0 l0_1 l0_2)) = some r := H
      have A21 := Aside0.mk A210
      clear A210
      have H9 := Aside0.mk H
      clear H
      have hcz22_0 : wr.cell? ⟨gb172, 0, none⟩ = some (.slice A0_0 l0_0.length c0_0) := (blk_cell BK172.out 0).trans rfl
      have hcz22_1 : wr.cell? ⟨gb172, 1, none⟩ = some (.slice A0_1 l0_1.length c0_1) := (blk_cell BK172.out 1).trans rfl
      have hcz22_2 : wr.cell? ⟨gb172, 2, none⟩ = some (.slice A0_2 l0_2.length c0_2) := (blk_cell BK172.out 2).trans rfl
      have hfz22_0 := blk_frozen BK172.out 0
      have hfz22_1 := blk_frozen BK172.out 1
      have hfz22_2 := blk_frozen BK172.out 2
      have p177 : 0 ≤ (x3_2 : Int) := of_decide_eq_true u4_9
      have q177 : x3_2 < (l0_2.length : Int) := of_decide_eq_true u4_9
      obtain ⟨ad177, e177, hx177_0⟩ := Kd.at_int HR0_2.out x3_2 p177 q177
      cases e177
      replace hx177_0 := (HB.out.cell (World.block_lt_of_cell? w _ hx177_0)).trans hx177_0
      replace p177 := eq_true p177
      replace q177 := eq_true q177
      go_upto_if 51 with (first | (go_at_call 54; (with_reducible refine (spec_l01Has.calls k2 _ _ l0_0 (rd l0_2 x3_2) false _ ?side1 ?side2 A18.out).mono ?_); (case side1 => exact u4_1); (case side2 => exact HC0_0.out); rintro e w' ⟨rfl, ⟨nd, rfl⟩⟩; (try first | exact ⟨rfl, _, World.drewN_drewN _ _ _⟩ | exact ⟨rfl, _, Eq.trans (World.drewN_drewN _ _ _) (congrArg (World.drewN _) (Nat.add_assoc _ _ _))⟩); have p179 : 0 ≤ (x3_2 : Int) := of_decide_eq_true u4_9; have q179 : x3_2 < (l0_2.length : Int) := of_decide_eq_true u4_9; obtain ⟨ad179, e179, hx179_0⟩ := Kd.at_int HR0_2.out x3_2 p179 q179; obtain rfl : ad177 = ad179 := (by injection e179); replace hx179_0 := (HB.out.cell (World.block_lt_of_cell? w _ hx179_0)).trans hx179_0; replace p179 := eq_true p179; replace q179 := eq_true q179) | (go_at_call 54; (with_reducible refine (spec_l01Has.calls k2 _ _ l0_1 (rd l0_2 x3_2) t180 _ ?side1 ?side2 A21.out).mono ?_); (case side1 => exact u4_3); (case side2 => exact HC0_1.out); rintro e w' ⟨rfl, ⟨nd, rfl⟩⟩; (try first | exact ⟨rfl, _, World.drewN_drewN _ _ _⟩ | exact ⟨rfl, _, Eq.trans (World.drewN_drewN _ _ _) (congrArg (World.drewN _) (Nat.add_assoc _ _ _))⟩)))
      repeat (go_quiet (first | (go_at_call 54; (with_reducible refine (spec_l01Has.calls k2 _ _ l0_0 (rd l0_2 x3_2) false _ ?side1 ?side2 A18.out).mono ?_); (case side1 => exact u4_1); (case side2 => exact HC0_0.out); rintro e w' ⟨rfl, ⟨nd, rfl⟩⟩; (try first | exact ⟨rfl, _, World.drewN_drewN _ _ _⟩ | exact ⟨rfl, _, Eq.trans (World.drewN_drewN _ _ _) (congrArg (World.drewN _) (Nat.add_assoc _ _ _))⟩); have p179 : 0 ≤ (x3_2 : Int) := of_decide_eq_true u4_9; have q179 : x3_2 < (l0_2.length : Int) := of_decide_eq_true u4_9; obtain ⟨ad179, e179, hx179_0⟩ := Kd.at_int HR0_2.out x3_2 p179 q179; obtain rfl : ad177 = ad179 := (by injection e179); replace hx179_0 := (HB.out.cell (World.block_lt_of_cell? w _ hx179_0)).trans hx179_0; replace p179 := eq_true p179; replace q179 := eq_true q179) | (go_at_call 54; (with_reducible refine (spec_l01Has.calls k2 _ _ l0_1 (rd l0_2 x3_2) t180 _ ?side1 ?side2 A21.out).mono ?_); (case side1 => exact u4_3); (case side2 => exact HC0_1.out); rintro e w' ⟨rfl, ⟨nd, rfl⟩⟩; (try first | exact ⟨rfl, _, World.drewN_drewN _ _ _⟩ | exact ⟨rfl, _, Eq.trans (World.drewN_drewN _ _ _) (congrArg (World.drewN _) (Nat.add_assoc _ _ _))⟩))); go_upto_if 51 with (first | (go_at_call 54; (with_reducible refine (spec_l01Has.calls k2 _ _ l0_0 (rd l0_2 x3_2) false _ ?side1 ?side2 A18.out).mono ?_); (case side1 => exact u4_1); (case side2 => exact HC0_0.out); rintro e w' ⟨rfl, ⟨nd, rfl⟩⟩; (try first | exact ⟨rfl, _, World.drewN_drewN _ _ _⟩ | exact ⟨rfl, _, Eq.trans (World.drewN_drewN _ _ _) (congrArg (World.drewN _) (Nat.add_assoc _ _ _))⟩); have p179 : 0 ≤ (x3_2 : Int) := of_decide_eq_true u4_9; have q179 : x3_2 < (l0_2.length : Int) := of_decide_eq_true u4_9; obtain ⟨ad179, e179, hx179_0⟩ := Kd.at_int HR0_2.out x3_2 p179 q179; obtain rfl : ad177 = ad179 := (by injection e179); replace hx179_0 := (HB.out.cell (World.block_lt_of_cell? w _ hx179_0)).trans hx179_0; replace p179 := eq_true p179; replace q179 := eq_true q179) | (go_at_call 54; (with_reducible refine (spec_l01Has.calls k2 _ _ l0_1 (rd l0_2 x3_2) t180 _ ?side1 ?side2 A21.out).mono ?_); (case side1 => exact u4_3); (case side2 => exact HC0_1.out); rintro e w' ⟨rfl, ⟨nd, rfl⟩⟩; (try first | exact ⟨rfl, _, World.drewN_drewN _ _ _⟩ | exact ⟨rfl, _, Eq.trans (World.drewN_drewN _ _ _) (congrArg (World.drewN _) (Nat.add_assoc _ _ _))⟩))))
      have H := H9.out
      clear H9
      by_cases c23 : t180 = true
      · subst c23
        rw [if_pos rfl] at H
        obtain rfl := Option.some.inj H
        go_wp2
        repeat (go_quiet (fail); try go_wp2)
        go_ret
        exact ⟨by first | rfl | (simp [errW_none, errW_some] <;> rfl) | (simp [*, errW_none, errW_some] <;> rfl), u4_0⟩
      replace c23 := Bool.eq_false_iff.mpr c23
      subst c23
      rw [if_neg (show ¬ (false = true) by decide)] at H
      have H' := Aside0.mk H
      clear H
      go_wp2
      repeat (go_quiet (fail); try go_wp2)
      go_roundg k2
      case measure => have := HJ1.out; have := HK2.out; omega
      case rel => exact ⟨(wrap64 (x3_2 + 1)), u4_7, H', ⟨(by have := HJ1.out; have := HK2.out; omega)⟩, ⟨u4_6⟩, ⟨u4_0⟩⟩

/-! ### spec_Voters: function 26 -/
def spec_Voters.l0 : Nat → List Int → Int → List Int → List Int → List Int → Option (List Int)
  | 0, _, _, _, _, _ => none
  | k + 1, x3, x4, x182000, x182001, x182002 => if x4 < 100 then ((spec_l01Has.f k x182000 x4).bind fun t186 => (if t186 = true then (if x3.length < 17592186044416 then (spec_Voters.l0 k (x3 ++ [x4]) (wrap64 (x4 + 1)) x182000 x182001 x182002) else (none)) else ((spec_l01Has.f k x182001 x4).bind fun t190 => (if t190 = true then (if x3.length < 17592186044416 then (spec_Voters.l0 k (x3 ++ [x4]) (wrap64 (x4 + 1)) x182000 x182001 x182002) else (none)) else (spec_Voters.l0 k x3 (wrap64 (x4 + 1)) x182000 x182001 x182002))))) else (some x3)
def spec_Voters.f (k : Nat) (l0_0 : List Int) (l0_1 : List Int) (l0_2 : List Int) : Option (List Int) := (spec_ConfOk.f k l0_0 l0_1 l0_2).bind fun t185 => (if t185 = true then (spec_Voters.l0 k (([] : List Int)) 0 l0_0 l0_1 l0_2) else (some ([] : List Int)))
theorem spec_Voters.mono_l : ∀ k, (∀ y0 y1 y2 y3 y4, LeO (spec_Voters.l0 k y0 y1 y2 y3 y4) (spec_Voters.l0 (k + 1) y0 y1 y2 y3 y4))
  | 0 => fun _ _ _ _ _ r h => by simp [spec_Voters.l0] at h
  | k + 1 => by
    have ih0 := spec_Voters.mono_l k
    · intro y0 y1 y2 y3 y4
      unfold spec_Voters.l0
      repeat' first
      | (with_reducible exact ih0 _ _ _ _ _)
      | (with_reducible exact spec_ConfOk.mono _ _ _ _)
      | (with_reducible exact spec_l01Has.mono _ _ _)
      | (with_reducible exact LeO.refl _)
      | (with_reducible exact LeO.none _)
      | (with_reducible refine LeO.ite ?_ ?_)
      | (with_reducible refine LeO.bind ?_ (fun _ => ?_))
      | exact ih0 _ _ _ _ _
      | exact spec_ConfOk.mono _ _ _ _
      | exact spec_l01Has.mono _ _ _
      | exact LeO.none _
      | refine LeO.ite ?_ ?_
      | refine LeO.bind ?_ (fun _ => ?_)
theorem spec_Voters.mono : ∀ a0 a1 a2 k, LeO (spec_Voters.f k a0 a1 a2) (spec_Voters.f (k + 1) a0 a1 a2) := by
  intro a0 a1 a2 k
  have ih0 := spec_Voters.mono_l k
  unfold spec_Voters.f
  repeat' first
      | (with_reducible exact ih0 _ _ _ _ _)
      | (with_reducible exact spec_ConfOk.mono _ _ _ _)
      | (with_reducible exact spec_l01Has.mono _ _ _)
      | (with_reducible exact LeO.refl _)
      | (with_reducible exact LeO.none _)
      | (with_reducible refine LeO.ite ?_ ?_)
      | (with_reducible refine LeO.bind ?_ (fun _ => ?_))
      | exact ih0 _ _ _ _ _
      | exact spec_ConfOk.mono _ _ _ _
      | exact spec_l01Has.mono _ _ _
      | exact LeO.none _
      | refine LeO.ite ?_ ?_
      | refine LeO.bind ?_ (fun _ => ?_)
set_option maxHeartbeats 8000000 in
set_option maxRecDepth 100000 in
theorem spec_Voters.calls (k : Nat) (A0_0 : Option Addr) (c0_0 : Nat) (l0_0 : List Int) (A0_1 : Option Addr) (c0_1 : Nat) (l0_1 : List Int) (A0_2 : Option Addr) (c0_2 : Nat) (l0_2 : List Int) (r : List Int) (w : World) (hr0_0 : Kd.C (Kd.int .i64) w A0_0 l0_0.length l0_0) (hc0_0 : l0_0.length ≤ c0_0) (hr0_1 : Kd.C (Kd.int .i64) w A0_1 l0_1.length l0_1) (hc0_1 : l0_1.length ≤ c0_1) (hr0_2 : Kd.C (Kd.int .i64) w A0_2 l0_2.length l0_2) (hc0_2 : l0_2.length ≤ c0_2) (h : spec_Voters.f k l0_0 l0_1 l0_2 = some r) :
    Calls Try.prog 26 #[.agg #[.slice A0_0 l0_0.length c0_0, .slice A0_1 l0_1.length c0_1, .slice A0_2 l0_2.length c0_2]] w fun e w' => ∃ v0_ : Value, e = .returned (v0_) ∧ Kd.R (Kd.int .i64) 3 w' w.heap.size (fun _ => True) v0_ r ∧ Below w.heap.size w w' := by
  have hu26 := Try.underlying26
  have HR0_0 := Aside0.mk hr0_0
  have HC0_0 := Aside0.mk hc0_0
  clear hr0_0 hc0_0
  have HR0_1 := Aside0.mk hr0_1
  have HC0_1 := Aside0.mk hc0_1
  clear hr0_1 hc0_1
  have HR0_2 := Aside0.mk hr0_2
  have HC0_2 := Aside0.mk hc0_2
  clear hr0_2 hc0_2
  have HB := Aside0.mk (Below.refl w.heap.size w)
  have H : ((spec_ConfOk.f k l0_0 l0_1 l0_2).bind fun t185 => (if t185 = true then (spec_Voters.l0 k (([] : List Int)) 0 l0_0 l0_1 l0_2) else (some ([] : List Int)))) = some r := h
  clear h
  obtain ⟨y182, hy182⟩ : ∃ y_ : List Int, y_ = (([] : List Int)) := ⟨_, rfl⟩
  replace H : ((spec_ConfOk.f k l0_0 l0_1 l0_2).bind fun t185 => (if t185 = true then (spec_Voters.l0 k y182 0 l0_0 l0_1 l0_2) else (some ([] : List Int)))) = some r := by first | (rw [hy182]; with_reducible exact H) | (have H2_ := (Option.bind_some _ _).symm.trans H; rw [hy182]; with_reducible exact H2_) | (have H2_ := (Option.bind_some _ _).symm.trans H; with_reducible exact H2_) | with_reducible exact H | (rw [hy182]; exact H) | exact H
  have Ny182 := Aside0.mk hy182
  clear hy182
  replace H := Option.bind_eq_some_iff.mp H
  obtain ⟨t185, A20, H⟩ := H
  replace H : (if t185 = true then (spec_Voters.l0 k y182 0 l0_0 l0_1 l0_2) else (some ([] : List Int))) = some r := H
  have A2 := Aside0.mk A20
  clear A20
  have H9 := Aside0.mk H
  clear H
  go_enter Try.func26, Try.ntmps26
  go_upto_if 8 with (first | ((with_reducible refine gate_dst (N := 1) rfl ?_); refine box_event ?hg (N := 1) ?hd (cs := #[.slice A0_0 l0_0.length c0_0, .slice A0_1 l0_1.length c0_1, .slice A0_2 l0_2.length c0_2]) (t := 26) ?hr ?_; (case hd => rfl); (case hg => rfl); (case hr => first | (go_simp; done) | (go_simp; rfl)); intro gb181 hg w3 hbox hb; have n0_ := Aside0.mk (below_step u4_4 hb); have n1_ := Aside0.mk (hbox); have n2_ := Aside0.mk ((by rw [hg]; exact (below_size u4_4) : w.heap.size ≤ gb181)); have n3_ := Aside0.mk ((by rw [hg]; exact (below_size u4_4) : w.heap.size ≤ gb181)); clear HB; have HB := n0_; have BK181 := n1_; have GW181 := n2_; have GE181 := n3_; clear n0_ n1_ n2_ n3_; clear hb hbox hg) | ((with_reducible refine gate_dst (N := 5) rfl ?_); refine Kd.R_lit (Kd.int .i64) _ 3 ?hg (N := 5) ?hd (xs := ([] : List Int)) (inner := []) (ok := fun _ => True) (okp := fun _ => True) ?hr ?hp (fun _ hk => hk) trivial (Below.refl _ _) (Nat.le_refl _) (by simp) ?_; (case hd => rfl); (case hg => rfl); (case hr => first | (go_simp; done) | (go_simp; rfl)); (case hp => exact (Reps.none _ _)); intro v183 w4 ho5 hb hg_ hnew_; clear hg_ hnew_; (first | rw [← Ny182.out] at ho5 | (simp only [Int.reduceToNat] at ho5; rw [← Ny182.out] at ho5)); have n0_ := Aside0.mk (Kd.R_lower ho5 (below_size u4_2)); have n1_ := Aside0.mk (blk_below (g := gb181) (o := .cells #[.slice A0_0 l0_0.length c0_0, .slice A0_1 l0_1.length c0_1, .slice A0_2 l0_2.length c0_2] 26 (0, 0)) u4_5 hb); have n2_ := Aside0.mk (below_step u4_2 hb); clear BK181; clear HB; have HO184 := n0_; have BK181 := n1_; have HB := n2_; clear n0_ n1_ n2_; clear hb ho5; have hcz6_0 : w4.cell? ⟨gb181, 0, none⟩ = some (.slice A0_0 l0_0.length c0_0) := (blk_cell BK181.out 0).trans rfl; have hcz6_1 : w4.cell? ⟨gb181, 1, none⟩ = some (.slice A0_1 l0_1.length c0_1) := (blk_cell BK181.out 1).trans rfl; have hcz6_2 : w4.cell? ⟨gb181, 2, none⟩ = some (.slice A0_2 l0_2.length c0_2) := (blk_cell BK181.out 2).trans rfl; have hfz6_0 := blk_frozen BK181.out 0; have hfz6_1 := blk_frozen BK181.out 1; have hfz6_2 := blk_frozen BK181.out 2) | ((with_reducible refine gate_callee (f := 53) rfl ?_); refine goesL_ (some 7) rfl rfl Try.func53 (by kernel_rfl) rfl #[.agg #[.slice A0_0 l0_0.length c0_0, .slice A0_1 l0_1.length c0_1, .slice A0_2 l0_2.length c0_2]] rfl u4_11 ?_; (with_reducible refine (spec_ConfOk.calls k _ _ l0_0 _ _ l0_1 _ _ l0_2 t185 _ ?side1 ?side2 ?side3 ?side4 ?side5 ?side6 A2.out).mono ?_); (case side1 => exact u4_1); (case side2 => exact HC0_0.out); (case side3 => exact (by repeat (first | exact (Kd.C_below HR0_1.out HB.out) | (with_reducible refine Kd.C_alloc ?_ _) | (with_reducible refine Kd.C_drewN ?_ _) | (with_reducible refine Kd.C_drew ?_)))); (case side4 => exact HC0_1.out); (case side5 => exact (by repeat (first | exact (Kd.C_below HR0_2.out HB.out) | (with_reducible refine Kd.C_alloc ?_ _) | (with_reducible refine Kd.C_drewN ?_ _) | (with_reducible refine Kd.C_drew ?_)))); (case side6 => exact HC0_2.out); rintro e w7 ⟨rfl, hb⟩; refine ⟨_, rfl, ?_⟩; have n0_ := Aside0.mk (Kd.R_below u4_14 hb); have n1_ := Aside0.mk (blk_below (g := gb181) (o := .cells #[.slice A0_0 l0_0.length c0_0, .slice A0_1 l0_1.length c0_1, .slice A0_2 l0_2.length c0_2] 26 (0, 0)) u4_5 hb); have n2_ := Aside0.mk (below_step u4_2 hb); clear HO184; clear BK181; clear HB; have HO184 := n0_; have BK181 := n1_; have HB := n2_; clear n0_ n1_ n2_; (try clear hb); (try clear hb2); (try clear hk); (try clear hi)))
  have H := H9.out
  clear H9
  by_cases c8 : t185 = true
  rotate_left
  · replace c8 := Bool.eq_false_iff.mpr c8
    subst c8
    rw [if_neg (show ¬ (false = true) by decide)] at H
    obtain rfl := Option.some.inj H
    go_wp2
    go_ret
    exact ⟨_, by first | rfl | (simp [errW_none, errW_some] <;> rfl) | (simp [*, errW_none, errW_some] <;> rfl), (by first | exact Kd.R_nil _ _ _ _ _ | exact Kd.N_nil _ _ _ _ _ | exact Kd.V_nil _ _ _ _ _ | exact Kd.Q_nil _ _ _ _ _ | exact Kd.S_nil _ _ _ _ _), u4_2⟩
  subst c8
  rw [if_pos rfl] at H
  have H' := Aside0.mk H
  clear H
  go_wp2
  go_loopg [3, 4] k (fun kq v3 v4 w' => ∃ (x3_1 : List Int) (x4_1 : Int), v4 = .int .i64 x4_1 ∧ Aside0 (spec_Voters.l0 kq x3_1 x4_1 l0_0 l0_1 l0_2 = some r) ∧ Aside0 (kq ≤ k) ∧ Aside0 (Kd.R (Kd.int .i64) 3 w' w.heap.size (fun _ => True) v3 x3_1) ∧ Aside0 (w'.heap[gb181]? = some (.cells #[(.slice A0_0 l0_0.length c0_0), (.slice A0_1 l0_1.length c0_1), (.slice A0_2 l0_2.length c0_2)] 26 (0, 0))) ∧ Aside0 (Below w.heap.size w w'))
  case atStart => exact ⟨(y182), (0), u4_7, H', ⟨Nat.le_refl _⟩, ⟨u4_14⟩, ⟨u4_5⟩, ⟨u4_2⟩⟩
  clear H'
  try clear c2
  try clear p2
  try clear c5
  try clear c8
  try clear hcz6_0
  try clear hcz6_1
  try clear hcz6_2
  try clear hfz6_0
  try clear hfz6_1
  try clear hfz6_2
  obtain ⟨x3_1, x4_1, rfl, HA, HK1, HO_3, BK181, HB⟩ := hrel
  cases gk with
  | zero => exact absurd HA.out (by simp [spec_Voters.l0])
  | succ k1 =>
    have H := HA.out
    clear HA
    simp only [spec_Voters.l0] at H
    by_cases c9 : x4_1 < 100
    rotate_left
    · rw [if_neg c9] at H
      have c9b0 : decide (x4_1 < 100) = false := decide_eq_false c9
      clear c9
      (first | rw [c9b0] | (simp only [i64_w, i32_w]; rw [c9b0]) | skip)
      obtain rfl := Option.some.inj H
      go_wp2
      go_ret
      exact ⟨_, by first | rfl | (simp [errW_none, errW_some] <;> rfl) | (simp [*, errW_none, errW_some] <;> rfl), u4_10, u4_2⟩
    rw [if_pos c9] at H
    have c9b0 : decide (x4_1 < 100) = true := decide_eq_true c9
    clear c9
    (first | rw [c9b0] | (simp only [i64_w, i32_w]; rw [c9b0]) | skip)
    replace H := Option.bind_eq_some_iff.mp H
    obtain ⟨t186, A100, H⟩ := H
    have A10 := Aside0.mk A100
    clear A100
    by_cases c11 : t186 = true
    · subst c11
      rw [if_pos rfl] at H
      by_cases c12 : x3_1.length < 17592186044416
      rotate_left
      · rw [if_neg c12] at H
        exact absurd H (by simp)
      rw [if_pos c12] at H
      have LMc12 := Aside0.mk c12
      clear c12
      obtain ⟨y187, hy187⟩ : ∃ y_ : List Int, y_ = (x3_1 ++ [x4_1]) := ⟨_, rfl⟩
      replace H : (spec_Voters.l0 k1 y187 (wrap64 (x4_1 + 1)) l0_0 l0_1 l0_2) = some r := by first | (rw [hy187]; with_reducible exact H) | (have H2_ := (Option.bind_some _ _).symm.trans H; rw [hy187]; with_reducible exact H2_) | (have H2_ := (Option.bind_some _ _).symm.trans H; with_reducible exact H2_) | with_reducible exact H | (rw [hy187]; exact H) | exact H
      have Ny187 := Aside0.mk hy187
      clear hy187
      have H' := Aside0.mk H
      clear H
      have hcz13_0 : wr.cell? ⟨gb181, 0, none⟩ = some (.slice A0_0 l0_0.length c0_0) := (blk_cell BK181.out 0).trans rfl
      have hcz13_1 : wr.cell? ⟨gb181, 1, none⟩ = some (.slice A0_1 l0_1.length c0_1) := (blk_cell BK181.out 1).trans rfl
      have hcz13_2 : wr.cell? ⟨gb181, 2, none⟩ = some (.slice A0_2 l0_2.length c0_2) := (blk_cell BK181.out 2).trans rfl
      have hfz13_0 := blk_frozen BK181.out 0
      have hfz13_1 := blk_frozen BK181.out 1
      have hfz13_2 := blk_frozen BK181.out 2
      go_wp2_with (first | ((with_reducible refine gate_callee (f := 54) rfl ?_); refine goesL_ (some 16) rfl rfl Try.func54 (by kernel_rfl) rfl #[.slice A0_0 l0_0.length c0_0, .int .i64 x4_1] rfl u4_11 ?_; (with_reducible refine (spec_l01Has.calls k1 _ _ l0_0 x4_1 true _ ?side1 ?side2 A10.out).mono ?_); (case side1 => exact u4_1); (case side2 => exact HC0_0.out); rintro e w' ⟨rfl, ⟨nd, rfl⟩⟩; refine ⟨_, rfl, ?_⟩) | ((with_reducible refine gate_builtin (b := .append) (xs := #[.tmp 23, .tmp 25]) rfl ?_); at_builtin; refine Kd.R_append (Kd.int .i64) (w0 := w) w.heap.size rfl (.tmp 23) (.tmp 25) 24 3 (.int .i64 0) 8 rfl Try.underlying24 info3 rfl (by decide) (by omega) u3 x3_1 x4_1 [.int .i64 x4_1] (fun _ => True) (fun _ => False) rfl rfl ?aP (fun _ hk => hk.elim) ?aF ?aO ?aB ?aS ?aL ?_; (case aP => exact rfl); (case aB => exact u4_2); (case aF => exact (fun _ _ => trivial)); (case aO => exact u4_10); (case aS => exact (below_size u4_2)); (case aL => have := LMc12.out; omega); intro v188 w14 ho hb hg hat; rw [← Ny187.out] at ho; have n0_ := Aside0.mk (blk_grown (g := gb181) (o := .cells #[.slice A0_0 l0_0.length c0_0, .slice A0_1 l0_1.length c0_1, .slice A0_2 l0_2.length c0_2] 26 (0, 0)) u4_5 hg (Kd.R_ne HO_3.out BK181.out (by decide))); have n1_ := Aside0.mk (hb); have n2_ := Aside0.mk (ho); clear BK181; clear HB; clear HO_3; have BK181 := n0_; have HB := n1_; have HO189 := n2_; clear n0_ n1_ n2_; clear ho hb hg hat))
      go_roundg k1
      case measure => have := HK1.out; omega
      case rel => exact ⟨(y187), (wrap64 (x4_1 + 1)), u4_7, H', ⟨by have := HK1.out; omega⟩, ⟨(by (with_reducible repeat (first | apply Kd.R_alloc | apply Kd.R_drewN | apply Kd.R_drew)); exact HO189.out)⟩, ⟨u4_5⟩, ⟨u4_2⟩⟩
    replace c11 := Bool.eq_false_iff.mpr c11
    subst c11
    rw [if_neg (show ¬ (false = true) by decide)] at H
    replace H := Option.bind_eq_some_iff.mp H
    obtain ⟨t190, A150, H⟩ := H
    have A15 := Aside0.mk A150
    clear A150
    have H9 := Aside0.mk H
    clear H
    have hcz16_0 : wr.cell? ⟨gb181, 0, none⟩ = some (.slice A0_0 l0_0.length c0_0) := (blk_cell BK181.out 0).trans rfl
    have hcz16_1 : wr.cell? ⟨gb181, 1, none⟩ = some (.slice A0_1 l0_1.length c0_1) := (blk_cell BK181.out 1).trans rfl
    have hcz16_2 : wr.cell? ⟨gb181, 2, none⟩ = some (.slice A0_2 l0_2.length c0_2) := (blk_cell BK181.out 2).trans rfl
    have hfz16_0 := blk_frozen BK181.out 0
    have hfz16_1 := blk_frozen BK181.out 1
    have hfz16_2 := blk_frozen BK181.out 2
    go_upto_if 22 with (first | ((with_reducible refine gate_callee (f := 54) rfl ?_); refine goesL_ (some 16) rfl rfl Try.func54 (by kernel_rfl) rfl #[.slice A0_0 l0_0.length c0_0, .int .i64 x4_1] rfl u4_11 ?_; (with_reducible refine (spec_l01Has.calls k1 _ _ l0_0 x4_1 false _ ?side1 ?side2 A10.out).mono ?_); (case side1 => exact u4_1); (case side2 => exact HC0_0.out); rintro e w' ⟨rfl, ⟨nd, rfl⟩⟩; refine ⟨_, rfl, ?_⟩) | (go_at_call 54; (with_reducible refine (spec_l01Has.calls k1 _ _ l0_1 x4_1 t190 _ ?side1 ?side2 A15.out).mono ?_); (case side1 => exact (by repeat (first | exact (Kd.C_below HR0_1.out u4_2) | (with_reducible refine Kd.C_alloc ?_ _) | (with_reducible refine Kd.C_drewN ?_ _) | (with_reducible refine Kd.C_drew ?_)))); (case side2 => exact HC0_1.out); rintro e w' ⟨rfl, ⟨nd, rfl⟩⟩))
    have H := H9.out
    clear H9
    by_cases c17 : t190 = true
    rotate_left
    · replace c17 := Bool.eq_false_iff.mpr c17
      subst c17
      rw [if_neg (show ¬ (false = true) by decide)] at H
      have H' := Aside0.mk H
      clear H
      go_wp2
      go_roundg k1
      case measure => have := HK1.out; omega
      case rel => exact ⟨(x3_1), (wrap64 (x4_1 + 1)), u4_7, H', ⟨by have := HK1.out; omega⟩, ⟨u4_10⟩, ⟨u4_5⟩, ⟨u4_2⟩⟩
    subst c17
    rw [if_pos rfl] at H
    by_cases c18 : x3_1.length < 17592186044416
    rotate_left
    · rw [if_neg c18] at H
      exact absurd H (by simp)
    rw [if_pos c18] at H
    have LMc18 := Aside0.mk c18
    clear c18
    obtain ⟨y191, hy191⟩ : ∃ y_ : List Int, y_ = (x3_1 ++ [x4_1]) := ⟨_, rfl⟩
    replace H : (spec_Voters.l0 k1 y191 (wrap64 (x4_1 + 1)) l0_0 l0_1 l0_2) = some r := by first | (rw [hy191]; with_reducible exact H) | (have H2_ := (Option.bind_some _ _).symm.trans H; rw [hy191]; with_reducible exact H2_) | (have H2_ := (Option.bind_some _ _).symm.trans H; with_reducible exact H2_) | with_reducible exact H | (rw [hy191]; exact H) | exact H
    have Ny191 := Aside0.mk hy191
    clear hy191
    have H' := Aside0.mk H
    clear H
    go_wp2_with (first | ((with_reducible refine gate_builtin (b := .append) (xs := #[.tmp 23, .tmp 25]) rfl ?_); at_builtin; refine Kd.R_append (Kd.int .i64) (w0 := w) w.heap.size rfl (.tmp 23) (.tmp 25) 24 3 (.int .i64 0) 8 rfl Try.underlying24 info3 rfl (by decide) (by omega) u3 x3_1 x4_1 [.int .i64 x4_1] (fun _ => True) (fun _ => False) rfl rfl ?aP (fun _ hk => hk.elim) ?aF ?aO ?aB ?aS ?aL ?_; (case aP => exact rfl); (case aB => exact u4_2); (case aF => exact (fun _ _ => trivial)); (case aO => exact u4_10); (case aS => exact (below_size u4_2)); (case aL => have := LMc18.out; omega); intro v192 w19 ho hb hg hat; rw [← Ny191.out] at ho; have n0_ := Aside0.mk (blk_grown (g := gb181) (o := .cells #[.slice A0_0 l0_0.length c0_0, .slice A0_1 l0_1.length c0_1, .slice A0_2 l0_2.length c0_2] 26 (0, 0)) u4_5 hg (Kd.R_ne HO_3.out BK181.out (by decide))); have n1_ := Aside0.mk (hb); have n2_ := Aside0.mk (ho); clear BK181; clear HB; clear HO_3; have BK181 := n0_; have HB := n1_; have HO193 := n2_; clear n0_ n1_ n2_; clear ho hb hg hat))
    go_roundg k1
    case measure => have := HK1.out; omega
    case rel => exact ⟨(y191), (wrap64 (x4_1 + 1)), u4_7, H', ⟨by have := HK1.out; omega⟩, ⟨(by (with_reducible repeat (first | apply Kd.R_alloc | apply Kd.R_drewN | apply Kd.R_drew)); exact HO193.out)⟩, ⟨u4_5⟩, ⟨u4_2⟩⟩

/-! ### laws_heldIntS: function 29 -/
def laws_heldIntS.l0 : Nat → List Int → Int → Int → Option (Int)
  | 0, _, _, _ => none
  | k + 1, x0, x1, x5 => if x5 < (x0.length : Int) then (if 0 ≤ x5 then (if (rd x0 x5) = x1 then (laws_heldIntS.l0 k x0 (wrap64 (x1 + 1)) (wrap64 (x5 + 1))) else (some (-1))) else (none)) else (some x1)
def laws_heldIntS.f (k : Nat) (l0 : List Int) (a1 : Int) : Option (Int) := laws_heldIntS.l0 k l0 a1 0
theorem laws_heldIntS.mono_l : ∀ k, (∀ y0 y1 y2, LeO (laws_heldIntS.l0 k y0 y1 y2) (laws_heldIntS.l0 (k + 1) y0 y1 y2))
  | 0 => fun _ _ _ r h => by simp [laws_heldIntS.l0] at h
  | k + 1 => by
    have ih0 := laws_heldIntS.mono_l k
    · intro y0 y1 y2
      unfold laws_heldIntS.l0
      repeat' first
      | (with_reducible exact ih0 _ _ _)
      | (with_reducible exact LeO.refl _)
      | (with_reducible exact LeO.none _)
      | (with_reducible refine LeO.ite ?_ ?_)
      | (with_reducible refine LeO.bind ?_ (fun _ => ?_))
      | exact ih0 _ _ _
      | exact LeO.none _
      | refine LeO.ite ?_ ?_
      | refine LeO.bind ?_ (fun _ => ?_)
theorem laws_heldIntS.mono : ∀ a0 a1 k, LeO (laws_heldIntS.f k a0 a1) (laws_heldIntS.f (k + 1) a0 a1) := by
  intro a0 a1 k
  have ih0 := laws_heldIntS.mono_l k
  unfold laws_heldIntS.f
  repeat' first
      | (with_reducible exact ih0 _ _ _)
      | (with_reducible exact LeO.refl _)
      | (with_reducible exact LeO.none _)
      | (with_reducible refine LeO.ite ?_ ?_)
      | (with_reducible refine LeO.bind ?_ (fun _ => ?_))
      | exact ih0 _ _ _
      | exact LeO.none _
      | refine LeO.ite ?_ ?_
      | refine LeO.bind ?_ (fun _ => ?_)
set_option maxHeartbeats 8000000 in
set_option maxRecDepth 100000 in
theorem laws_heldIntS.calls (k : Nat) (A0 : Option Addr) (c0 : Nat) (l0 : List Int) (a1 : Int) (r : Int) (w : World) (hr0 : Kd.C (Kd.int .i64) w A0 l0.length l0) (hc0 : l0.length ≤ c0) (h : laws_heldIntS.f k l0 a1 = some r) :
    Calls Try.prog 29 #[.slice A0 l0.length c0, .int .i64 a1] w fun e w' => e = .returned (.int .i64 r) ∧ Drawn0 w w' := by
  have HR0 := Aside0.mk hr0
  have HC0 := Aside0.mk hc0
  clear hr0 hc0
  have H : (laws_heldIntS.l0 k l0 a1 0) = some r := h
  clear h
  have H' := Aside0.mk H
  clear H
  go_enter Try.func29, Try.ntmps29
  go_wp2
  go_loopg [1, 5] k (fun kq v1 v5 w' => ∃ (x1_1 : Int) (x5_1 : Int), v1 = .int .i64 x1_1 ∧ v5 = .int .i64 x5_1 ∧ Aside0 (laws_heldIntS.l0 kq l0 x1_1 x5_1 = some r) ∧ Aside0 (kq ≤ k) ∧ Drawn0 w w')
  case atStart => exact ⟨(a1), (0), u4_7, u4_7, H', ⟨Nat.le_refl _⟩, u4_13⟩
  clear H'
  try clear c2
  try clear p2
  obtain ⟨x1_1, x5_1, rfl, rfl, HA, HK1, ⟨m1, rfl⟩⟩ := hrel
  cases gk with
  | zero => exact absurd HA.out (by simp [laws_heldIntS.l0])
  | succ k1 =>
    have H := HA.out
    clear HA
    simp only [laws_heldIntS.l0] at H
    by_cases c3 : x5_1 < (l0.length : Int)
    rotate_left
    · rw [if_neg c3] at H
      have c3b0 : decide (x5_1 < (l0.length : Int)) = false := decide_eq_false c3
      clear c3
      obtain rfl := Option.some.inj H
      go_wp2
      go_ret
      exact ⟨by first | rfl | (simp; done) | (simp [*]; done), u4_13⟩
    rw [if_pos c3] at H
    have c3b0 : decide (x5_1 < (l0.length : Int)) = true := decide_eq_true c3
    clear c3
    by_cases c4 : 0 ≤ x5_1
    rotate_left
    · rw [if_neg c4] at H
      exact absurd H (by simp)
    rw [if_pos c4] at H
    have c4b0 : decide (0 ≤ x5_1) = true := decide_eq_true c4
    clear c4
    have H9 := Aside0.mk H
    clear H
    have p194 : 0 ≤ (x5_1 : Int) := of_decide_eq_true u4_9
    have q194 : x5_1 < (l0.length : Int) := of_decide_eq_true u4_9
    obtain ⟨ad194, e194, hx194_0⟩ := Kd.at_int HR0.out x5_1 p194 q194
    cases e194
    replace p194 := eq_true p194
    replace q194 := eq_true q194
    go_upto_if 17 with (fail)
    have H := H9.out
    clear H9
    by_cases c5 : (rd l0 x5_1) = x1_1
    rotate_left
    · rw [if_neg c5] at H
      have c5b0 : ((rd l0 x5_1) == x1_1) = false := beq_eq_false_iff_ne.mpr c5
      have c5b1 : ((rd l0 x5_1) != x1_1) = true := bne_iff_ne.mpr c5
      (first | rw [c5b0] | (simp only [i64_w, i32_w]; rw [c5b0]) | skip)
      obtain rfl := Option.some.inj H
      go_wp2
      go_ret
      exact ⟨by first | rfl | (simp; done) | (simp [*]; done), u4_13⟩
    rw [if_pos c5] at H
    have c5b0 : ((rd l0 x5_1) == x1_1) = true := beq_iff_eq.mpr c5
    have c5b1 : ((rd l0 x5_1) != x1_1) = false := bne_eq_false_iff_eq.mpr c5
    clear c5
    (first | rw [c5b0] | (simp only [i64_w, i32_w]; rw [c5b0]) | skip)
    have H' := Aside0.mk H
    clear H
    go_wp2
    go_roundg k1
    case measure => have := HK1.out; omega
    case rel => exact ⟨(wrap64 (x1_1 + 1)), (wrap64 (x5_1 + 1)), u4_7, u4_7, H', ⟨by have := HK1.out; omega⟩, u4_13⟩

end Go.Proofs.Ytoemdmjdpikfbaa.QFnExactVoters
