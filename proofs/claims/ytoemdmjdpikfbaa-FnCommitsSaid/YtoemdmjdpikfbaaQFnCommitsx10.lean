-- Printed by the session's own program wip/prx.py.
import Derived.Test.YtoemdmjdpikfbaaQFnCommitsx0
import Derived.Test.YtoemdmjdpikfbaaQFnCommitsx1
import Derived.Test.YtoemdmjdpikfbaaQFnCommitsx2
import Derived.Test.YtoemdmjdpikfbaaQFnCommitsx8
import Derived.Test.YtoemdmjdpikfbaaQFnCommitsx9
namespace Go.Proofs.Ytoemdmjdpikfbaa.QFnCommits
open Go.RowKit Go.Proofs.YtoemdmjdpikfbaaW.PrintWords Go.Proofs.YtoemdmjdpikfbaaW.PrintLast Go.Proofs.YtoemdmjdpikfbaaW.PrintMore
attribute [local go_sem] max2_int min2_int max_two min_two max_three min_three max_four min_four Go.Proofs.Ytoemdmjdpikfbaa.Set.isSome_setCell   -- for this text's walks alone
set_option linter.unusedVariables false
set_option linter.unusedSimpArgs false

-- squeezed
theorem u10_0 {P : Prop} (h : P := by repeat (first | (with_reducible first | exact HB.out | apply below_alloc | apply pw_below_drewN | apply below_drew1) | exact HB.out)) : P := h
theorem u10_1 {P : Prop} (h : P := by repeat (first | exact (Kd.C_below HR0_0.out HB.out) | (with_reducible refine Kd.C_alloc ?_ _) | (with_reducible refine Kd.C_drewN ?_ _) | (with_reducible refine Kd.C_drew ?_))) : P := h
theorem u10_2 {P : Prop} (h : P := by repeat (first | (with_reducible first | exact HB.out | apply below_alloc | apply pw_below_drewN | apply below_drew1 | refine below_set ?_ GE469.out | refine below_set ?_ GE472.out) | exact HB.out)) : P := h
theorem u10_3 {P : Prop} (h : P := by (with_reducible repeat (first | refine blk_drewN ?_ _ | refine blk_drew ?_ | refine blk_alloc ?_ _)); exact BK469.out) : P := h
theorem u10_4 {P : Prop} (h : P := by repeat (first | exact (Kd.C_below HR0_1.out HB.out) | (with_reducible refine Kd.C_alloc ?_ _) | (with_reducible refine Kd.C_drewN ?_ _) | (with_reducible refine Kd.C_drew ?_))) : P := h
theorem u10_5 {P : Prop} (h : P := by repeat (first | exact (Kd.C_below HR0_2.out HB.out) | (with_reducible refine Kd.C_alloc ?_ _) | (with_reducible refine Kd.C_drewN ?_ _) | (with_reducible refine Kd.C_drew ?_))) : P := h
theorem u10_6 {P : Prop} (h : P := by repeat (first | (with_reducible first | exact HB.out | apply below_alloc | apply pw_below_drewN | apply below_drew1 | refine below_set ?_ GE469.out) | exact HB.out)) : P := h
theorem u10_7 {P : Prop} (h : P := by repeat (first | (with_reducible first | exact HB.out | apply below_alloc | apply pw_below_drewN | apply below_drew1 | refine below_set ?_ GE487.out) | exact HB.out)) : P := h
theorem u10_8 {P : Prop} (h : P := by (try simp only [List.map_toArray, List.map_cons, List.map_nil]); first | done | rfl | (simp only [List.length_drop, List.length_take]; rfl)) : P := h
theorem u10_9 {P : Prop} (h : P := by first | rfl | (simp; done) | (simp [*]; done)) : P := h
theorem u10_10 {P : Prop} (h : P := by repeat (first | (with_reducible first | exact HB.out | apply below_alloc | apply pw_below_drewN | apply below_drew1 | refine below_set ?_ GE469.out | refine below_set ?_ GE472.out | refine below_set ?_ GE477.out) | exact HB.out)) : P := h
theorem u10_11 {P : Prop} (h : P := by repeat (first | (with_reducible first | exact HB.out | apply below_alloc | apply pw_below_drewN | apply below_drew1 | refine below_set ?_ GE482.out) | exact HB.out)) : P := h
theorem u10_12 {P : Prop} (h : P := by (with_reducible repeat (first | refine blk_drewN ?_ _ | refine blk_drew ?_ | refine blk_alloc ?_ _)); exact BK472.out) : P := h
theorem u10_13 {P : Prop} (h : P := by repeat (first | exact (Kd.C_below HR1.out HB.out) | (with_reducible refine Kd.C_alloc ?_ _) | (with_reducible refine Kd.C_drewN ?_ _) | (with_reducible refine Kd.C_drew ?_))) : P := h
theorem u10_14 {P : Prop} (h : P := by (with_reducible repeat (first | refine blk_drewN ?_ _ | refine blk_drew ?_ | refine blk_alloc ?_ _)); refine blk_far ?_ NB469_477.out _; (with_reducible repeat (first | refine blk_drewN ?_ _ | refine blk_drew ?_ | refine blk_alloc ?_ _)); refine blk_far ?_ NB469_477.out _; (with_reducible repeat (first | refine blk_drewN ?_ _ | refine blk_drew ?_ | refine blk_alloc ?_ _)); exact BK469.out) : P := h
theorem u10_15 {P : Prop} (h : P := by (with_reducible repeat (first | refine blk_drewN ?_ _ | refine blk_drew ?_ | refine blk_alloc ?_ _)); refine blk_far ?_ NB472_477.out _; (with_reducible repeat (first | refine blk_drewN ?_ _ | refine blk_drew ?_ | refine blk_alloc ?_ _)); refine blk_far ?_ NB472_477.out _; (with_reducible repeat (first | refine blk_drewN ?_ _ | refine blk_drew ?_ | refine blk_alloc ?_ _)); exact BK472.out) : P := h
theorem u10_16 {P : Prop} (h : P := by (with_reducible repeat (first | apply Kd.R_alloc | apply Kd.R_drewN | apply Kd.R_drew)); exact Kd.R_mono (Kd.R_far (p := ⟨gb477, 1, none⟩) (Kd.R_far (p := ⟨gb477, 0, none⟩) (Kd.R_types HO_8.out BK477.out (by decide)) (fun _ hk => hk.2) (.int .i64 ((rd_T60 l1 x31_3).f0))) (fun _ hk => hk.2) (.int .i64 ((rd_T60 l1 x31_3).f1))) (fun _ hk => trivial)) : P := h
theorem u10_17 {P : Prop} (h : P := by (with_reducible repeat (first | refine blk_drewN ?_ _ | refine blk_drew ?_ | refine blk_alloc ?_ _)); exact BK487.out) : P := h
theorem u10_18 {P : Prop} (h : P := by (with_reducible repeat (first | refine blk_drewN ?_ _ | refine blk_drew ?_ | refine blk_alloc ?_ _)); exact BK482.out) : P := h
theorem u10_19 {P : Prop} (h : P := by first | (with_reducible assumption) | assumption) : P := h
theorem u10_20 {P : Prop} (h : P := by have := HJ2.out; have := HK2.out; have := HK3.out; omega) : P := h
theorem u10_21 {P : Prop} (h : P := by repeat (first | exact Drawn0.refl _ | apply Drawn0.step)) : P := h
theorem u10_22 {P : Prop} (h : P := by (with_reducible repeat (first | apply Kd.R_alloc | apply Kd.R_drewN | apply Kd.R_drew)); exact HO_8.out) : P := h
/-! ### impl_CommitOf: function 39 -/
mutual
def impl_CommitOf.j0 : Nat → List (S60) → Bool → List Int → List Int → List Int → Option (Int)
  | 0, _, _, _, _, _ => none
  | k + 1, x1, x18, x470000, x470001, x470002 => if x18 = true then (some (-1)) else (impl_CommitOf.l0 k x1 0 x1 (x1.length : Int) 0 x470000 x470001 x470002)
def impl_CommitOf.l0 : Nat → List (S60) → Int → List (S60) → Int → Int → List Int → List Int → List Int → Option (Int)
  | 0, _, _, _, _, _, _, _, _ => none
  | k + 1, x1, x5, x19, x20, x21, x470000, x470001, x470002 => if x21 < x20 then (if 0 ≤ x21 then (if x21 < (x19.length : Int) then (if ((rd_T60 x19 x21).f1) < 0 then (some (-1)) else (impl_CommitOf.l1 k x1 x5 (([] : List Int)) x19 x20 x21 x1 (x1.length : Int) 0 x470000 x470001 x470002 ((rd_T60 x19 x21).f0) ((rd_T60 x19 x21).f1))) else (none)) else (none)) else (some x5)
def impl_CommitOf.l1 : Nat → List (S60) → Int → List Int → List (S60) → Int → Int → List (S60) → Int → Int → List Int → List Int → List Int → Int → Int → Option (Int)
  | 0, _, _, _, _, _, _, _, _, _, _, _, _, _, _ => none
  | k + 1, x1, x5, x8, x19, x20, x21, x29, x30, x31, x470000, x470001, x470002, x473000, x473001 => if x31 < x30 then (if 0 ≤ x31 then (if x31 < (x29.length : Int) then (if ((rd_T60 x29 x31).f1) ≥ x473001 then (if x8.length < 17592186044416 then (impl_CommitOf.l1 k x1 x5 (x8 ++ [(rd_T60 x29 x31).f0]) x19 x20 x21 x29 x30 (wrap64 (x31 + 1)) x470000 x470001 x470002 x473000 x473001) else (none)) else (impl_CommitOf.l1 k x1 x5 x8 x19 x20 x21 x29 x30 (wrap64 (x31 + 1)) x470000 x470001 x470002 x473000 x473001)) else (none)) else (none)) else (if x473001 > x5 then ((impl_quorum.f k x470000 x470001 x470002 x8).bind fun t481 => (if t481 = true then (impl_CommitOf.l0 k x1 x473001 x19 x20 (wrap64 (x21 + 1)) x470000 x470001 x470002) else (impl_CommitOf.l0 k x1 x5 x19 x20 (wrap64 (x21 + 1)) x470000 x470001 x470002))) else (impl_CommitOf.l0 k x1 x5 x19 x20 (wrap64 (x21 + 1)) x470000 x470001 x470002))
end
def impl_CommitOf.f (k : Nat) (l0_0 : List Int) (l0_1 : List Int) (l0_2 : List Int) (l1 : List (S60)) : Option (Int) := (impl_isConf.f k l0_0 l0_1 l0_2).bind fun t470 => (if t470 = true then (impl_CommitOf.j0 k l1 (decide ((l1.length : Int) > 100)) l0_0 l0_1 l0_2) else (impl_CommitOf.j0 k l1 true l0_0 l0_1 l0_2))
theorem impl_CommitOf.mono_l : ∀ k, (∀ y0 y1 y2 y3 y4, LeO (impl_CommitOf.j0 k y0 y1 y2 y3 y4) (impl_CommitOf.j0 (k + 1) y0 y1 y2 y3 y4)) ∧ (∀ y0 y1 y2 y3 y4 y5 y6 y7, LeO (impl_CommitOf.l0 k y0 y1 y2 y3 y4 y5 y6 y7) (impl_CommitOf.l0 (k + 1) y0 y1 y2 y3 y4 y5 y6 y7)) ∧ (∀ y0 y1 y2 y3 y4 y5 y6 y7 y8 y9 y10 y11 y12 y13, LeO (impl_CommitOf.l1 k y0 y1 y2 y3 y4 y5 y6 y7 y8 y9 y10 y11 y12 y13) (impl_CommitOf.l1 (k + 1) y0 y1 y2 y3 y4 y5 y6 y7 y8 y9 y10 y11 y12 y13))
  | 0 => ⟨fun _ _ _ _ _ r h => by simp [impl_CommitOf.j0] at h, fun _ _ _ _ _ _ _ _ r h => by simp [impl_CommitOf.l0] at h, fun _ _ _ _ _ _ _ _ _ _ _ _ _ _ r h => by simp [impl_CommitOf.l1] at h⟩
  | k + 1 => by
    obtain ⟨ih0, ih1, ih2⟩ := impl_CommitOf.mono_l k
    refine ⟨?_, ?_, ?_⟩
    · intro y0 y1 y2 y3 y4
      unfold impl_CommitOf.j0
      repeat' first
      | (with_reducible exact ih0 _ _ _ _ _)
      | (with_reducible exact ih1 _ _ _ _ _ _ _ _)
      | (with_reducible exact ih2 _ _ _ _ _ _ _ _ _ _ _ _ _ _)
      | (with_reducible exact impl_isConf.mono _ _ _ _)
      | (with_reducible exact impl_quorum.mono _ _ _ _ _)
      | (with_reducible exact LeO.refl _)
      | (with_reducible exact LeO.none _)
      | (with_reducible refine LeO.ite ?_ ?_)
      | (with_reducible refine LeO.bind ?_ (fun _ => ?_))
      | exact ih0 _ _ _ _ _
      | exact ih1 _ _ _ _ _ _ _ _
      | exact ih2 _ _ _ _ _ _ _ _ _ _ _ _ _ _
      | exact impl_isConf.mono _ _ _ _
      | exact impl_quorum.mono _ _ _ _ _
      | exact LeO.none _
      | refine LeO.ite ?_ ?_
      | refine LeO.bind ?_ (fun _ => ?_)
    · intro y0 y1 y2 y3 y4 y5 y6 y7
      unfold impl_CommitOf.l0
      repeat' first
      | (with_reducible exact ih0 _ _ _ _ _)
      | (with_reducible exact ih1 _ _ _ _ _ _ _ _)
      | (with_reducible exact ih2 _ _ _ _ _ _ _ _ _ _ _ _ _ _)
      | (with_reducible exact impl_isConf.mono _ _ _ _)
      | (with_reducible exact impl_quorum.mono _ _ _ _ _)
      | (with_reducible exact LeO.refl _)
      | (with_reducible exact LeO.none _)
      | (with_reducible refine LeO.ite ?_ ?_)
      | (with_reducible refine LeO.bind ?_ (fun _ => ?_))
      | exact ih0 _ _ _ _ _
      | exact ih1 _ _ _ _ _ _ _ _
      | exact ih2 _ _ _ _ _ _ _ _ _ _ _ _ _ _
      | exact impl_isConf.mono _ _ _ _
      | exact impl_quorum.mono _ _ _ _ _
      | exact LeO.none _
      | refine LeO.ite ?_ ?_
      | refine LeO.bind ?_ (fun _ => ?_)
    · intro y0 y1 y2 y3 y4 y5 y6 y7 y8 y9 y10 y11 y12 y13
      unfold impl_CommitOf.l1
      repeat' first
      | (with_reducible exact ih0 _ _ _ _ _)
      | (with_reducible exact ih1 _ _ _ _ _ _ _ _)
      | (with_reducible exact ih2 _ _ _ _ _ _ _ _ _ _ _ _ _ _)
      | (with_reducible exact impl_isConf.mono _ _ _ _)
      | (with_reducible exact impl_quorum.mono _ _ _ _ _)
      | (with_reducible exact LeO.refl _)
      | (with_reducible exact LeO.none _)
      | (with_reducible refine LeO.ite ?_ ?_)
      | (with_reducible refine LeO.bind ?_ (fun _ => ?_))
      | exact ih0 _ _ _ _ _
      | exact ih1 _ _ _ _ _ _ _ _
      | exact ih2 _ _ _ _ _ _ _ _ _ _ _ _ _ _
      | exact impl_isConf.mono _ _ _ _
      | exact impl_quorum.mono _ _ _ _ _
      | exact LeO.none _
      | refine LeO.ite ?_ ?_
      | refine LeO.bind ?_ (fun _ => ?_)
theorem impl_CommitOf.mono : ∀ a0 a1 a2 a3 k, LeO (impl_CommitOf.f k a0 a1 a2 a3) (impl_CommitOf.f (k + 1) a0 a1 a2 a3) := by
  intro a0 a1 a2 a3 k
  obtain ⟨ih0, ih1, ih2⟩ := impl_CommitOf.mono_l k
  unfold impl_CommitOf.f
  repeat' first
      | (with_reducible exact ih0 _ _ _ _ _)
      | (with_reducible exact ih1 _ _ _ _ _ _ _ _)
      | (with_reducible exact ih2 _ _ _ _ _ _ _ _ _ _ _ _ _ _)
      | (with_reducible exact impl_isConf.mono _ _ _ _)
      | (with_reducible exact impl_quorum.mono _ _ _ _ _)
      | (with_reducible exact LeO.refl _)
      | (with_reducible exact LeO.none _)
      | (with_reducible refine LeO.ite ?_ ?_)
      | (with_reducible refine LeO.bind ?_ (fun _ => ?_))
      | exact ih0 _ _ _ _ _
      | exact ih1 _ _ _ _ _ _ _ _
      | exact ih2 _ _ _ _ _ _ _ _ _ _ _ _ _ _
      | exact impl_isConf.mono _ _ _ _
      | exact impl_quorum.mono _ _ _ _ _
      | exact LeO.none _
      | refine LeO.ite ?_ ?_
      | refine LeO.bind ?_ (fun _ => ?_)
set_option maxHeartbeats 8000000 in
set_option maxRecDepth 100000 in
theorem impl_CommitOf.calls (k : Nat) (A0_0 : Option Addr) (c0_0 : Nat) (l0_0 : List Int) (A0_1 : Option Addr) (c0_1 : Nat) (l0_1 : List Int) (A0_2 : Option Addr) (c0_2 : Nat) (l0_2 : List Int) (A1 : Option Addr) (c1 : Nat) (l1 : List (S60)) (r : Int) (w : World) (hr0_0 : Kd.C (Kd.int .i64) w A0_0 l0_0.length l0_0) (hc0_0 : l0_0.length ≤ c0_0) (hr0_1 : Kd.C (Kd.int .i64) w A0_1 l0_1.length l0_1) (hc0_1 : l0_1.length ≤ c0_1) (hr0_2 : Kd.C (Kd.int .i64) w A0_2 l0_2.length l0_2) (hc0_2 : l0_2.length ≤ c0_2) (hr1 : Kd.C k60 w A1 l1.length l1) (hc1 : l1.length ≤ c1) (h : impl_CommitOf.f k l0_0 l0_1 l0_2 l1 = some r) :
    Calls Try.prog 39 #[.agg #[.slice A0_0 l0_0.length c0_0, .slice A0_1 l0_1.length c0_1, .slice A0_2 l0_2.length c0_2], .slice A1 l1.length c1] w fun e w' => e = .returned (.int .i64 r) ∧ Below w.heap.size w w' := by
  have hu26 := Try.underlying26
  have hu60 := Try.underlying60
  have HR0_0 := Aside0.mk hr0_0
  have HC0_0 := Aside0.mk hc0_0
  clear hr0_0 hc0_0
  have HR0_1 := Aside0.mk hr0_1
  have HC0_1 := Aside0.mk hc0_1
  clear hr0_1 hc0_1
  have HR0_2 := Aside0.mk hr0_2
  have HC0_2 := Aside0.mk hc0_2
  clear hr0_2 hc0_2
  have HR1 := Aside0.mk hr1
  have HC1 := Aside0.mk hc1
  clear hr1 hc1
  have HB := Aside0.mk (Below.refl w.heap.size w)
  have H : ((impl_isConf.f k l0_0 l0_1 l0_2).bind fun t470 => (if t470 = true then (impl_CommitOf.j0 k l1 (decide ((l1.length : Int) > 100)) l0_0 l0_1 l0_2) else (impl_CommitOf.j0 k l1 true l0_0 l0_1 l0_2))) = some r := h
  clear h
  have HC3 := Aside0.mk H
  clear H
  go_enter Try.func39, Try.ntmps39
  go_upto_region 1 with (first | ((with_reducible refine gate_dst (N := 2) rfl ?_); (try (refine gate_guard (by rfl) ?_; dsimp only)); refine box_event ?hg (N := 2) ?hd (cs := #[.slice A0_0 l0_0.length c0_0, .slice A0_1 l0_1.length c0_1, .slice A0_2 l0_2.length c0_2]) (t := 26) ?hr ?_; (case hd => rfl); (case hg => rfl); (case hr => first | (go_simp; done) | (go_simp; rfl)); intro gb469 hg w4 hbox hb; have n0_ := Aside0.mk (below_step u10_0 hb); have n1_ := Aside0.mk (hbox); have n2_ := Aside0.mk ((by rw [hg]; exact (below_size u10_0) : w.heap.size ≤ gb469)); have n3_ := Aside0.mk ((by rw [hg]; exact (below_size u10_0) : w.heap.size ≤ gb469)); clear HB; have HB := n0_; have BK469 := n1_; have GW469 := n2_; have GE469 := n3_; clear n0_ n1_ n2_ n3_; clear hb hbox hg))
  (try simp only [Act.put, List.setIfInBounds_toArray, List.set_cons_zero, List.set_cons_succ])
  go_cut [18] (fun v18 wc => ∃ (kq : Nat) (x18_2 : Bool), v18 = .bool x18_2 ∧ Aside0 (impl_CommitOf.j0 kq l1 x18_2 l0_0 l0_1 l0_2 = some r) ∧ Aside0 (kq ≤ k) ∧ Aside0 (wc.heap[gb469]? = some (.cells #[(.slice A0_0 l0_0.length c0_0), (.slice A0_1 l0_1.length c0_1), (.slice A0_2 l0_2.length c0_2)] 26 (0, 0))) ∧ Aside0 (Below w.heap.size w wc))
  case first =>
    have H := HC3.out
    clear HC3
    replace H := Option.bind_eq_some_iff.mp H
    obtain ⟨t470, A50, H⟩ := H
    have A5 := Aside0.mk A50
    clear A50
    by_cases c6 : t470 = true
    · subst c6
      rw [if_pos rfl] at H
      have H' := Aside0.mk H
      clear H
      have hcz7_0 : w4.cell? ⟨gb469, 0, none⟩ = some (.slice A0_0 l0_0.length c0_0) := (blk_cell BK469.out 0).trans rfl
      have hcz7_1 : w4.cell? ⟨gb469, 1, none⟩ = some (.slice A0_1 l0_1.length c0_1) := (blk_cell BK469.out 1).trans rfl
      have hcz7_2 : w4.cell? ⟨gb469, 2, none⟩ = some (.slice A0_2 l0_2.length c0_2) := (blk_cell BK469.out 2).trans rfl
      have hfz7_0 := blk_frozen BK469.out 0
      have hfz7_1 := blk_frozen BK469.out 1
      have hfz7_2 := blk_frozen BK469.out 2
      go_wp2_with (first | ((with_reducible refine gate_callee (f := 48) rfl ?_); refine goesL_ (some 12) rfl rfl Try.func48 (by kernel_rfl) rfl #[.agg #[.slice A0_0 l0_0.length c0_0, .slice A0_1 l0_1.length c0_1, .slice A0_2 l0_2.length c0_2]] rfl u10_8 ?_; (with_reducible refine (impl_isConf.calls k _ _ l0_0 _ _ l0_1 _ _ l0_2 true _ ?side1 ?side2 ?side3 ?side4 ?side5 ?side6 A5.out).mono ?_); (case side1 => exact u10_1); (case side2 => exact HC0_0.out); (case side3 => exact u10_4); (case side4 => exact HC0_1.out); (case side5 => exact u10_5); (case side6 => exact HC0_2.out); rintro e w8 ⟨rfl, hb⟩; refine ⟨_, rfl, ?_⟩; have n0_ := Aside0.mk (blk_below (g := gb469) (o := .cells #[.slice A0_0 l0_0.length c0_0, .slice A0_1 l0_1.length c0_1, .slice A0_2 l0_2.length c0_2] 26 (0, 0)) u10_3 hb); have n1_ := Aside0.mk (below_step u10_6 hb); clear BK469; clear HB; have BK469 := n0_; have HB := n1_; clear n0_ n1_; (try clear hb); (try clear hb2); (try clear hk); (try clear hi)))
      go_meet
      case rel => exact ⟨_, (decide ((l1.length : Int) > 100)), u10_9, H', ⟨by first | omega | exact Nat.le_refl _⟩, ⟨u10_3⟩, ⟨u10_6⟩⟩
    replace c6 := Bool.eq_false_iff.mpr c6
    subst c6
    rw [if_neg (show ¬ (false = true) by decide)] at H
    have H' := Aside0.mk H
    clear H
    have hcz9_0 : w4.cell? ⟨gb469, 0, none⟩ = some (.slice A0_0 l0_0.length c0_0) := (blk_cell BK469.out 0).trans rfl
    have hcz9_1 : w4.cell? ⟨gb469, 1, none⟩ = some (.slice A0_1 l0_1.length c0_1) := (blk_cell BK469.out 1).trans rfl
    have hcz9_2 : w4.cell? ⟨gb469, 2, none⟩ = some (.slice A0_2 l0_2.length c0_2) := (blk_cell BK469.out 2).trans rfl
    have hfz9_0 := blk_frozen BK469.out 0
    have hfz9_1 := blk_frozen BK469.out 1
    have hfz9_2 := blk_frozen BK469.out 2
    go_wp2_with (first | ((with_reducible refine gate_callee (f := 48) rfl ?_); refine goesL_ (some 12) rfl rfl Try.func48 (by kernel_rfl) rfl #[.agg #[.slice A0_0 l0_0.length c0_0, .slice A0_1 l0_1.length c0_1, .slice A0_2 l0_2.length c0_2]] rfl u10_8 ?_; (with_reducible refine (impl_isConf.calls k _ _ l0_0 _ _ l0_1 _ _ l0_2 false _ ?side1 ?side2 ?side3 ?side4 ?side5 ?side6 A5.out).mono ?_); (case side1 => exact u10_1); (case side2 => exact HC0_0.out); (case side3 => exact u10_4); (case side4 => exact HC0_1.out); (case side5 => exact u10_5); (case side6 => exact HC0_2.out); rintro e w10 ⟨rfl, hb⟩; refine ⟨_, rfl, ?_⟩; have n0_ := Aside0.mk (blk_below (g := gb469) (o := .cells #[.slice A0_0 l0_0.length c0_0, .slice A0_1 l0_1.length c0_1, .slice A0_2 l0_2.length c0_2] 26 (0, 0)) u10_3 hb); have n1_ := Aside0.mk (below_step u10_6 hb); clear BK469; clear HB; have BK469 := n0_; have HB := n1_; clear n0_ n1_; (try clear hb); (try clear hb2); (try clear hk); (try clear hi)))
    go_meet
    case rel => exact ⟨_, (true), u10_9, H', ⟨by first | omega | exact Nat.le_refl _⟩, ⟨u10_3⟩, ⟨u10_6⟩⟩
  clear HC3
  try clear c1
  try clear p2
  try clear c3
  try clear c4
  try clear c6
  try clear hcz7_0
  try clear hcz7_1
  try clear hcz7_2
  try clear hcz9_0
  try clear hcz9_1
  try clear hcz9_2
  try clear hfz7_0
  try clear hfz7_1
  try clear hfz7_2
  try clear hfz9_0
  try clear hfz9_1
  try clear hfz9_2
  obtain ⟨kq, x18_2, rfl, HA, HJ2, BK469, HB⟩ := hcut
  cases kq with
  | zero => exact absurd HA.out (by simp [impl_CommitOf.j0])
  | succ kj2 =>
    have H := HA.out
    clear HA
    simp only [impl_CommitOf.j0] at H
    by_cases c11 : x18_2 = true
    · subst c11
      rw [if_pos rfl] at H
      obtain rfl := Option.some.inj H
      go_wp2
      go_ret
      exact ⟨by first | rfl | (simp [errW_none, errW_some] <;> rfl) | (simp [*, errW_none, errW_some] <;> rfl), u10_6⟩
    replace c11 := Bool.eq_false_iff.mpr c11
    subst c11
    rw [if_neg (show ¬ (false = true) by decide)] at H
    have H' := Aside0.mk H
    clear H
    go_wp2
    go_loopg [5, 21] kj2 (fun kq v5 v21 w' => ∃ (x5_2 : Int) (x21_2 : Int), v5 = .int .i64 x5_2 ∧ v21 = .int .i64 x21_2 ∧ Aside0 (impl_CommitOf.l0 kq l1 x5_2 l1 (l1.length : Int) x21_2 l0_0 l0_1 l0_2 = some r) ∧ Aside0 (kq ≤ kj2) ∧ Aside0 (w'.heap[gb469]? = some (.cells #[(.slice A0_0 l0_0.length c0_0), (.slice A0_1 l0_1.length c0_1), (.slice A0_2 l0_2.length c0_2)] 26 (0, 0))) ∧ Aside0 (Below w.heap.size w w'))
    case atStart => exact ⟨(0), (0), u10_9, u10_9, H', ⟨Nat.le_refl _⟩, ⟨u10_3⟩, ⟨u10_6⟩⟩
    clear H'
    try clear c1
    try clear p2
    try clear c3
    try clear c4
    try clear c6
    try clear c11
    try clear hcz7_0
    try clear hcz7_1
    try clear hcz7_2
    try clear hcz9_0
    try clear hcz9_1
    try clear hcz9_2
    try clear hfz7_0
    try clear hfz7_1
    try clear hfz7_2
    try clear hfz9_0
    try clear hfz9_1
    try clear hfz9_2
    try clear p2
    obtain ⟨x5_2, x21_2, rfl, rfl, HA, HK2, BK469, HB⟩ := hrel
    cases gk with
    | zero => exact absurd HA.out (by simp [impl_CommitOf.l0])
    | succ k2 =>
      have H := HA.out
      clear HA
      simp only [impl_CommitOf.l0] at H
      by_cases c12 : x21_2 < (l1.length : Int)
      rotate_left
      · rw [if_neg c12] at H
        have c12b0 : decide (x21_2 < (l1.length : Int)) = false := decide_eq_false c12
        clear c12
        obtain rfl := Option.some.inj H
        go_wp2
        go_ret
        exact ⟨by first | rfl | (simp [errW_none, errW_some] <;> rfl) | (simp [*, errW_none, errW_some] <;> rfl), u10_6⟩
      rw [if_pos c12] at H
      have c12b0 : decide (x21_2 < (l1.length : Int)) = true := decide_eq_true c12
      clear c12
      by_cases c13 : 0 ≤ x21_2
      rotate_left
      · rw [if_neg c13] at H
        exact absurd H (by simp)
      rw [if_pos c13] at H
      have c13b0 : decide (0 ≤ x21_2) = true := decide_eq_true c13
      clear c13
      by_cases c14 : x21_2 < (l1.length : Int)
      rotate_left
      · rw [if_neg c14] at H
        exact absurd H (by simp)
      rw [if_pos c14] at H
      have c14b0 : decide (x21_2 < (l1.length : Int)) = true := decide_eq_true c14
      clear c14
      have H9 := Aside0.mk H
      clear H
      have p471 : 0 ≤ (x21_2 : Int) := of_decide_eq_true u10_19
      have q471 : x21_2 < (l1.length : Int) := of_decide_eq_true u10_19
      obtain ⟨ad471, e471, hx471_0, hx471_1⟩ := at_T60 HR1.out x21_2 p471 q471
      cases e471
      replace hx471_0 := (HB.out.cell (World.block_lt_of_cell? w _ hx471_0)).trans hx471_0
      replace hx471_1 := (HB.out.cell (World.block_lt_of_cell? w _ hx471_1)).trans hx471_1
      replace p471 := eq_true p471
      replace q471 := eq_true q471
      go_upto_if 27 with (first | ((with_reducible refine gate_dst (N := 7) rfl ?_); (try (refine gate_guard (by rfl) ?_; dsimp only)); refine box_event ?hg (N := 7) ?hd (cs := #[.int .i64 0, .int .i64 0]) (t := 60) ?hr ?_; (case hd => rfl); (case hg => rfl); (case hr => first | (go_simp; done) | (go_simp; rfl)); intro gb472 hg w15 hbox hb; have n0_ := Aside0.mk (blk_below (g := gb469) (o := .cells #[.slice A0_0 l0_0.length c0_0, .slice A0_1 l0_1.length c0_1, .slice A0_2 l0_2.length c0_2] 26 (0, 0)) u10_3 hb); have n1_ := Aside0.mk (below_step u10_6 hb); have n2_ := Aside0.mk (hbox); have n3_ := Aside0.mk ((by rw [hg]; exact (below_size u10_6) : w.heap.size ≤ gb472)); have n4_ := Aside0.mk ((by rw [hg]; exact (below_size u10_6) : w.heap.size ≤ gb472)); have n5_ := Aside0.mk ((by rw [hg]; exact Nat.ne_of_lt (blk_lt (g := gb469) (o := .cells #[.slice A0_0 l0_0.length c0_0, .slice A0_1 l0_1.length c0_1, .slice A0_2 l0_2.length c0_2] 26 (0, 0)) u10_3) : gb469 ≠ gb472)); have n6_ := Aside0.mk ((by rw [hg]; exact Nat.ne_of_gt (blk_lt (g := gb469) (o := .cells #[.slice A0_0 l0_0.length c0_0, .slice A0_1 l0_1.length c0_1, .slice A0_2 l0_2.length c0_2] 26 (0, 0)) u10_3) : gb472 ≠ gb469)); clear BK469; clear HB; have BK469 := n0_; have HB := n1_; have BK472 := n2_; have GW472 := n3_; have GE472 := n4_; have NB469_472 := n5_; have NB472_469 := n6_; clear n0_ n1_ n2_ n3_ n4_ n5_ n6_; clear hb hbox hg; have hnb16 := NB472_469.out; have hnc16 := NB469_472.out; have hcz17_0 : w15.cell? ⟨gb472, 0, none⟩ = some (.int .i64 0) := (blk_cell BK472.out 0).trans rfl; have hcz17_1 : w15.cell? ⟨gb472, 1, none⟩ = some (.int .i64 0) := (blk_cell BK472.out 1).trans rfl; have hfz17_0 := blk_frozen BK472.out 0; have hfz17_1 := blk_frozen BK472.out 1))
      have H := H9.out
      clear H9
      by_cases c18 : ((rd_T60 l1 x21_2).f1) < 0
      · rw [if_pos c18] at H
        have c18b0 : decide (((rd_T60 l1 x21_2).f1) < 0) = true := decide_eq_true c18
        clear c18
        (first | rw [c18b0] | (simp only [i64_w, i32_w]; rw [c18b0]) | skip)
        obtain rfl := Option.some.inj H
        go_wp2
        go_ret
        exact ⟨by first | rfl | (simp [errW_none, errW_some] <;> rfl) | (simp [*, errW_none, errW_some] <;> rfl), u10_2⟩
      rw [if_neg c18] at H
      have c18b0 : decide (((rd_T60 l1 x21_2).f1) < 0) = false := decide_eq_false c18
      clear c18
      (first | rw [c18b0] | (simp only [i64_w, i32_w]; rw [c18b0]) | skip)
      obtain ⟨y473, hy473⟩ : ∃ y_ : List Int, y_ = (([] : List Int)) := ⟨_, rfl⟩
      replace H : (impl_CommitOf.l1 k2 l1 x5_2 y473 l1 (l1.length : Int) x21_2 l1 (l1.length : Int) 0 l0_0 l0_1 l0_2 ((rd_T60 l1 x21_2).f0) ((rd_T60 l1 x21_2).f1)) = some r := by first | (rw [hy473]; with_reducible exact H) | (have H2_ := (Option.bind_some _ _).symm.trans H; rw [hy473]; with_reducible exact H2_) | (have H2_ := (Option.bind_some _ _).symm.trans H; with_reducible exact H2_) | with_reducible exact H | (rw [hy473]; exact H) | exact H
      have Ny473 := Aside0.mk hy473
      clear hy473
      have H' := Aside0.mk H
      clear H
      go_wp2_with (first | ((with_reducible refine gate_dst (N := 28) rfl ?_); (try (refine gate_guard (by rfl) ?_; dsimp only)); refine Kd.R_lit (Kd.int .i64) _ 3 ?hg (N := 28) ?hd (xs := ([] : List Int)) (inner := []) (ok := fun _ => True) (okp := fun _ => True) ?hr ?hp (fun _ hk => hk) trivial (Below.refl _ _) (Nat.le_refl _) (by simp) ?_; (case hd => rfl); (case hg => rfl); (case hr => first | (go_simp; done) | (go_simp; rfl)); (case hp => exact (Reps.none _ _)); intro v474 w19 ho20 hb hg_ hnew_; clear hg_ hnew_; (first | rw [← Ny473.out] at ho20 | (simp only [Int.reduceToNat] at ho20; rw [← Ny473.out] at ho20)); have n0_ := Aside0.mk (Kd.R_lower ho20 (below_size u10_2)); have n1_ := Aside0.mk (blk_below (g := gb469) (o := .cells #[.slice A0_0 l0_0.length c0_0, .slice A0_1 l0_1.length c0_1, .slice A0_2 l0_2.length c0_2] 26 (0, 0)) (by (with_reducible repeat (first | refine blk_drewN ?_ _ | refine blk_drew ?_ | refine blk_alloc ?_ _)); refine blk_far ?_ NB469_472.out _; (with_reducible repeat (first | refine blk_drewN ?_ _ | refine blk_drew ?_ | refine blk_alloc ?_ _)); refine blk_far ?_ NB469_472.out _; (with_reducible repeat (first | refine blk_drewN ?_ _ | refine blk_drew ?_ | refine blk_alloc ?_ _)); exact BK469.out) hb); have n2_ := Aside0.mk (blk_below (g := gb472) (o := .cells #[.int .i64 ((rd_T60 l1 x21_2).f0), .int .i64 ((rd_T60 l1 x21_2).f1)] 60 (0, 0)) (by (with_reducible repeat (first | refine blk_drewN ?_ _ | refine blk_drew ?_ | refine blk_alloc ?_ _)); refine blk_put (cs := #[.int .i64 ((rd_T60 l1 x21_2).f0), .int .i64 0]) ?_ 1 _ rfl; (with_reducible repeat (first | refine blk_drewN ?_ _ | refine blk_drew ?_ | refine blk_alloc ?_ _)); refine blk_put (cs := #[.int .i64 0, .int .i64 0]) ?_ 0 _ rfl; (with_reducible repeat (first | refine blk_drewN ?_ _ | refine blk_drew ?_ | refine blk_alloc ?_ _)); exact BK472.out) hb); have n3_ := Aside0.mk (below_step u10_2 hb); clear BK469; clear BK472; clear HB; have HO475 := n0_; have BK469 := n1_; have BK472 := n2_; have HB := n3_; clear n0_ n1_ n2_ n3_; clear hb ho20))
      go_loopg [8, 31] k2 (fun kq v8 v31 w' => ∃ (x8_3 : List Int) (x31_3 : Int), v31 = .int .i64 x31_3 ∧ Aside0 (impl_CommitOf.l1 kq l1 x5_2 x8_3 l1 (l1.length : Int) x21_2 l1 (l1.length : Int) x31_3 l0_0 l0_1 l0_2 ((rd_T60 l1 x21_2).f0) ((rd_T60 l1 x21_2).f1) = some r) ∧ Aside0 (kq ≤ k2) ∧ Aside0 (Kd.R (Kd.int .i64) 3 w' w.heap.size (fun _ => True) v8 x8_3) ∧ Aside0 (w'.heap[gb469]? = some (.cells #[(.slice A0_0 l0_0.length c0_0), (.slice A0_1 l0_1.length c0_1), (.slice A0_2 l0_2.length c0_2)] 26 (0, 0))) ∧ Aside0 (w'.heap[gb472]? = some (.cells #[.int .i64 ((rd_T60 l1 x21_2).f0), .int .i64 ((rd_T60 l1 x21_2).f1)] 60 (0, 0))) ∧ Aside0 (Below w.heap.size w w'))
      case atStart => exact ⟨(y473), (0), u10_9, H', ⟨Nat.le_refl _⟩, ⟨(by (with_reducible repeat (first | apply Kd.R_alloc | apply Kd.R_drewN | apply Kd.R_drew)); exact HO475.out)⟩, ⟨u10_3⟩, ⟨u10_12⟩, ⟨u10_2⟩⟩
      clear H'
      try clear c1
      try clear p2
      try clear c3
      try clear c4
      try clear p4
      try clear q4
      try clear hx4
      try clear c6
      try clear c11
      try clear c12
      try clear c12b0
      try clear c13
      try clear c13b0
      try clear c14
      try clear c14b0
      try clear c16
      try clear c18
      try clear c18b0
      try clear hcz17_0
      try clear hcz17_1
      try clear hcz7_0
      try clear hcz7_1
      try clear hcz7_2
      try clear hcz9_0
      try clear hcz9_1
      try clear hcz9_2
      try clear hfz17_0
      try clear hfz17_1
      try clear hfz7_0
      try clear hfz7_1
      try clear hfz7_2
      try clear hfz9_0
      try clear hfz9_1
      try clear hfz9_2
      try clear hx471_0
      try clear hx471_1
      try clear p2
      try clear p471
      try clear q471
      obtain ⟨x8_3, x31_3, rfl, HA, HK3, HO_8, BK469, BK472, HB⟩ := hrel
      cases gk with
      | zero => exact absurd HA.out (by simp [impl_CommitOf.l1])
      | succ k3 =>
        have H := HA.out
        clear HA
        simp only [impl_CommitOf.l1] at H
        by_cases c21 : x31_3 < (l1.length : Int)
        rotate_left
        · rw [if_neg c21] at H
          have c21b0 : decide (x31_3 < (l1.length : Int)) = false := decide_eq_false c21
          clear c21
          by_cases c36 : ((rd_T60 l1 x21_2).f1) > x5_2
          rotate_left
          · rw [if_neg c36] at H
            have c36b0 : decide (x5_2 < ((rd_T60 l1 x21_2).f1)) = false := decide_eq_false c36
            clear c36
            have H' := Aside0.mk H
            clear H
            have hnb46 := NB472_469.out
            have hnc46 := NB469_472.out
            have hcz47_0 : wr.cell? ⟨gb472, 0, none⟩ = some (.int .i64 ((rd_T60 l1 x21_2).f0)) := (blk_cell BK472.out 0).trans rfl
            have hcz47_1 : wr.cell? ⟨gb472, 1, none⟩ = some (.int .i64 ((rd_T60 l1 x21_2).f1)) := (blk_cell BK472.out 1).trans rfl
            have hfz47_0 := blk_frozen BK472.out 0
            have hfz47_1 := blk_frozen BK472.out 1
            go_wp2
            go_roundg k3
            case measure => have := HJ2.out; have := HK2.out; have := HK3.out; omega
            case rel => exact ⟨(x5_2), (wrap64 (x21_2 + 1)), u10_9, u10_9, H', ⟨u10_20⟩, ⟨u10_3⟩, ⟨u10_2⟩⟩
          rw [if_pos c36] at H
          have c36b0 : decide (x5_2 < ((rd_T60 l1 x21_2).f1)) = true := decide_eq_true c36
          clear c36
          replace H := Option.bind_eq_some_iff.mp H
          obtain ⟨t481, A370, H⟩ := H
          have A37 := Aside0.mk A370
          clear A370
          have H9 := Aside0.mk H
          clear H
          have hnb38 := NB472_469.out
          have hnc38 := NB469_472.out
          have hcz39_0 : wr.cell? ⟨gb472, 0, none⟩ = some (.int .i64 ((rd_T60 l1 x21_2).f0)) := (blk_cell BK472.out 0).trans rfl
          have hcz39_1 : wr.cell? ⟨gb472, 1, none⟩ = some (.int .i64 ((rd_T60 l1 x21_2).f1)) := (blk_cell BK472.out 1).trans rfl
          have hfz39_0 := blk_frozen BK472.out 0
          have hfz39_1 := blk_frozen BK472.out 1
          have hcz40_0 : wr.cell? ⟨gb469, 0, none⟩ = some (.slice A0_0 l0_0.length c0_0) := (blk_cell BK469.out 0).trans rfl
          have hcz40_1 : wr.cell? ⟨gb469, 1, none⟩ = some (.slice A0_1 l0_1.length c0_1) := (blk_cell BK469.out 1).trans rfl
          have hcz40_2 : wr.cell? ⟨gb469, 2, none⟩ = some (.slice A0_2 l0_2.length c0_2) := (blk_cell BK469.out 2).trans rfl
          have hfz40_0 := blk_frozen BK469.out 0
          have hfz40_1 := blk_frozen BK469.out 1
          have hfz40_2 := blk_frozen BK469.out 2
          obtain ⟨Ao41, co41, eo41⟩ := Kd.R_slice HO_8.out
          subst eo41
          go_upto_if 54 with (first | (go_at_call 65; (with_reducible refine (impl_quorum.calls k3 _ _ l0_0 _ _ l0_1 _ _ l0_2 _ _ x8_3 t481 _ ?side1 ?side2 ?side3 ?side4 ?side5 ?side6 ?side7 ?side8 A37.out).mono ?_); (case side1 => exact u10_1); (case side2 => exact HC0_0.out); (case side3 => exact u10_4); (case side4 => exact HC0_1.out); (case side5 => exact u10_5); (case side6 => exact HC0_2.out); (case side7 => exact (by repeat (first | exact (Kd.R_reads' HO_8.out).2.2 | (with_reducible refine Kd.C_alloc ?_ _) | (with_reducible refine Kd.C_drewN ?_ _) | (with_reducible refine Kd.C_drew ?_)))); (case side8 => exact (Kd.R_reads' HO_8.out).2.1); rintro e w42 ⟨rfl, hb⟩; have n0_ := Aside0.mk (Kd.R_below u10_22 hb); have n1_ := Aside0.mk (blk_below (g := gb469) (o := .cells #[.slice A0_0 l0_0.length c0_0, .slice A0_1 l0_1.length c0_1, .slice A0_2 l0_2.length c0_2] 26 (0, 0)) u10_3 hb); have n2_ := Aside0.mk (blk_below (g := gb472) (o := .cells #[.int .i64 ((rd_T60 l1 x21_2).f0), .int .i64 ((rd_T60 l1 x21_2).f1)] 60 (0, 0)) u10_12 hb); have n3_ := Aside0.mk (below_step u10_2 hb); clear HO_8; clear BK469; clear BK472; clear HB; have HO_8 := n0_; have BK469 := n1_; have BK472 := n2_; have HB := n3_; clear n0_ n1_ n2_ n3_; (try clear hb); (try clear hb2); (try clear hk); (try clear hi)))
          have H := H9.out
          clear H9
          by_cases c43 : t481 = true
          rotate_left
          · replace c43 := Bool.eq_false_iff.mpr c43
            subst c43
            rw [if_neg (show ¬ (false = true) by decide)] at H
            have H' := Aside0.mk H
            clear H
            go_wp2
            go_roundg k3
            case measure => have := HJ2.out; have := HK2.out; have := HK3.out; omega
            case rel => exact ⟨(x5_2), (wrap64 (x21_2 + 1)), u10_9, u10_9, H', ⟨u10_20⟩, ⟨u10_3⟩, ⟨u10_2⟩⟩
          subst c43
          rw [if_pos rfl] at H
          have H' := Aside0.mk H
          clear H
          have hnb44 := NB472_469.out
          have hnc44 := NB469_472.out
          have hcz45_0 : w42.cell? ⟨gb472, 0, none⟩ = some (.int .i64 ((rd_T60 l1 x21_2).f0)) := (blk_cell BK472.out 0).trans rfl
          have hcz45_1 : w42.cell? ⟨gb472, 1, none⟩ = some (.int .i64 ((rd_T60 l1 x21_2).f1)) := (blk_cell BK472.out 1).trans rfl
          have hfz45_0 := blk_frozen BK472.out 0
          have hfz45_1 := blk_frozen BK472.out 1
          go_wp2
          go_roundg k3
          case measure => have := HJ2.out; have := HK2.out; have := HK3.out; omega
          case rel => exact ⟨(((rd_T60 l1 x21_2).f1)), (wrap64 (x21_2 + 1)), u10_9, u10_9, H', ⟨u10_20⟩, ⟨u10_3⟩, ⟨u10_2⟩⟩
        rw [if_pos c21] at H
        have c21b0 : decide (x31_3 < (l1.length : Int)) = true := decide_eq_true c21
        clear c21
        by_cases c22 : 0 ≤ x31_3
        rotate_left
        · rw [if_neg c22] at H
          exact absurd H (by simp)
        rw [if_pos c22] at H
        have c22b0 : decide (0 ≤ x31_3) = true := decide_eq_true c22
        clear c22
        by_cases c23 : x31_3 < (l1.length : Int)
        rotate_left
        · rw [if_neg c23] at H
          exact absurd H (by simp)
        rw [if_pos c23] at H
        have c23b0 : decide (x31_3 < (l1.length : Int)) = true := decide_eq_true c23
        clear c23
        have H9 := Aside0.mk H
        clear H
        have p476 : 0 ≤ (x31_3 : Int) := of_decide_eq_true u10_19
        have q476 : x31_3 < (l1.length : Int) := of_decide_eq_true u10_19
        obtain ⟨ad476, e476, hx476_0, hx476_1⟩ := at_T60 HR1.out x31_3 p476 q476
        obtain rfl : ad471 = ad476 := (by injection e476)
        replace hx476_0 := (HB.out.cell (World.block_lt_of_cell? w _ hx476_0)).trans hx476_0
        replace hx476_1 := (HB.out.cell (World.block_lt_of_cell? w _ hx476_1)).trans hx476_1
        replace p476 := eq_true p476
        replace q476 := eq_true q476
        go_upto_if 39 with (first | ((with_reducible refine gate_dst (N := 10) rfl ?_); (try (refine gate_guard (by rfl) ?_; dsimp only)); refine box_event ?hg (N := 10) ?hd (cs := #[.int .i64 0, .int .i64 0]) (t := 60) ?hr ?_; (case hd => rfl); (case hg => rfl); (case hr => first | (go_simp; done) | (go_simp; rfl)); intro gb477 hg w24 hbox hb; have n0_ := Aside0.mk (Kd.R_below u10_22 hb); have n1_ := Aside0.mk (blk_below (g := gb469) (o := .cells #[.slice A0_0 l0_0.length c0_0, .slice A0_1 l0_1.length c0_1, .slice A0_2 l0_2.length c0_2] 26 (0, 0)) u10_3 hb); have n2_ := Aside0.mk (blk_below (g := gb472) (o := .cells #[.int .i64 ((rd_T60 l1 x21_2).f0), .int .i64 ((rd_T60 l1 x21_2).f1)] 60 (0, 0)) u10_12 hb); have n3_ := Aside0.mk (below_step u10_2 hb); have n4_ := Aside0.mk (hbox); have n5_ := Aside0.mk ((by rw [hg]; exact (below_size u10_2) : w.heap.size ≤ gb477)); have n6_ := Aside0.mk ((by rw [hg]; exact (below_size u10_2) : w.heap.size ≤ gb477)); have n7_ := Aside0.mk ((by rw [hg]; exact Nat.ne_of_lt (blk_lt (g := gb469) (o := .cells #[.slice A0_0 l0_0.length c0_0, .slice A0_1 l0_1.length c0_1, .slice A0_2 l0_2.length c0_2] 26 (0, 0)) u10_3) : gb469 ≠ gb477)); have n8_ := Aside0.mk ((by rw [hg]; exact Nat.ne_of_gt (blk_lt (g := gb469) (o := .cells #[.slice A0_0 l0_0.length c0_0, .slice A0_1 l0_1.length c0_1, .slice A0_2 l0_2.length c0_2] 26 (0, 0)) u10_3) : gb477 ≠ gb469)); have n9_ := Aside0.mk ((by rw [hg]; exact Nat.ne_of_lt (blk_lt (g := gb472) (o := .cells #[.int .i64 ((rd_T60 l1 x21_2).f0), .int .i64 ((rd_T60 l1 x21_2).f1)] 60 (0, 0)) u10_12) : gb472 ≠ gb477)); have n10_ := Aside0.mk ((by rw [hg]; exact Nat.ne_of_gt (blk_lt (g := gb472) (o := .cells #[.int .i64 ((rd_T60 l1 x21_2).f0), .int .i64 ((rd_T60 l1 x21_2).f1)] 60 (0, 0)) u10_12) : gb477 ≠ gb472)); clear HO_8; clear BK469; clear BK472; clear HB; have HO_8 := n0_; have BK469 := n1_; have BK472 := n2_; have HB := n3_; have BK477 := n4_; have GW477 := n5_; have GE477 := n6_; have NB469_477 := n7_; have NB477_469 := n8_; have NB472_477 := n9_; have NB477_472 := n10_; clear n0_ n1_ n2_ n3_ n4_ n5_ n6_ n7_ n8_ n9_ n10_; clear hb hbox hg; have hnb25 := NB477_469.out; have hnc25 := NB469_477.out; have hnb26 := NB477_472.out; have hnc26 := NB472_477.out; have hcz27_0 : w24.cell? ⟨gb477, 0, none⟩ = some (.int .i64 0) := (blk_cell BK477.out 0).trans rfl; have hcz27_1 : w24.cell? ⟨gb477, 1, none⟩ = some (.int .i64 0) := (blk_cell BK477.out 1).trans rfl; have hfz27_0 := blk_frozen BK477.out 0; have hfz27_1 := blk_frozen BK477.out 1; have hnb28 := NB472_469.out; have hnc28 := NB469_472.out; have hcz29_0 : w24.cell? ⟨gb472, 0, none⟩ = some (.int .i64 ((rd_T60 l1 x21_2).f0)) := (blk_cell BK472.out 0).trans rfl; have hcz29_1 : w24.cell? ⟨gb472, 1, none⟩ = some (.int .i64 ((rd_T60 l1 x21_2).f1)) := (blk_cell BK472.out 1).trans rfl; have hfz29_0 := blk_frozen BK472.out 0; have hfz29_1 := blk_frozen BK472.out 1))
        have H := H9.out
        clear H9
        by_cases c30 : ((rd_T60 l1 x31_3).f1) ≥ ((rd_T60 l1 x21_2).f1)
        rotate_left
        · rw [if_neg c30] at H
          have c30b0 : decide (((rd_T60 l1 x21_2).f1) ≤ ((rd_T60 l1 x31_3).f1)) = false := decide_eq_false c30
          clear c30
          (first | rw [c30b0] | (simp only [i64_w, i32_w]; rw [c30b0]) | skip)
          have H' := Aside0.mk H
          clear H
          go_wp2
          go_roundg k3
          case measure => have := HJ2.out; have := HK2.out; have := HK3.out; omega
          case rel => exact ⟨(x8_3), (wrap64 (x31_3 + 1)), u10_9, H', ⟨u10_20⟩, ⟨u10_16⟩, ⟨u10_14⟩, ⟨u10_15⟩, ⟨u10_10⟩⟩
        rw [if_pos c30] at H
        have c30b0 : decide (((rd_T60 l1 x21_2).f1) ≤ ((rd_T60 l1 x31_3).f1)) = true := decide_eq_true c30
        clear c30
        (first | rw [c30b0] | (simp only [i64_w, i32_w]; rw [c30b0]) | skip)
        by_cases c31 : x8_3.length < 17592186044416
        rotate_left
        · rw [if_neg c31] at H
          exact absurd H (by simp)
        rw [if_pos c31] at H
        have LMc31 := Aside0.mk c31
        clear c31
        obtain ⟨y478, hy478⟩ : ∃ y_ : List Int, y_ = (x8_3 ++ [(rd_T60 l1 x31_3).f0]) := ⟨_, rfl⟩
        replace H : (impl_CommitOf.l1 k3 l1 x5_2 y478 l1 (l1.length : Int) x21_2 l1 (l1.length : Int) (wrap64 (x31_3 + 1)) l0_0 l0_1 l0_2 ((rd_T60 l1 x21_2).f0) ((rd_T60 l1 x21_2).f1)) = some r := by first | (rw [hy478]; with_reducible exact H) | (have H2_ := (Option.bind_some _ _).symm.trans H; rw [hy478]; with_reducible exact H2_) | (have H2_ := (Option.bind_some _ _).symm.trans H; with_reducible exact H2_) | with_reducible exact H | (rw [hy478]; exact H) | exact H
        have Ny478 := Aside0.mk hy478
        clear hy478
        have H' := Aside0.mk H
        clear H
        have hnb32 := NB477_469.out
        have hnc32 := NB469_477.out
        have hnb33 := NB477_472.out
        have hnc33 := NB472_477.out
        have hcz34_0 : w24.cell? ⟨gb477, 0, none⟩ = some (.int .i64 0) := (blk_cell BK477.out 0).trans rfl
        have hcz34_1 : w24.cell? ⟨gb477, 1, none⟩ = some (.int .i64 0) := (blk_cell BK477.out 1).trans rfl
        have hfz34_0 := blk_frozen BK477.out 0
        have hfz34_1 := blk_frozen BK477.out 1
        go_wp2_with (first | ((with_reducible refine gate_builtin (b := .append) (xs := #[.tmp 40, .tmp 43]) rfl ?_); (try (refine gate_guard (by rfl) ?_; dsimp only)); at_builtin; refine Kd.R_append (Kd.int .i64) (w0 := w) w.heap.size rfl (.tmp 40) (.tmp 43) 24 3 (.int .i64 0) 8 rfl Try.underlying24 info3 rfl (by decide) (by omega) u8 x8_3 ((rd_T60 l1 x31_3).f0) [.int .i64 ((rd_T60 l1 x31_3).f0)] (fun _ => True) (fun _ => False) rfl (by first | (go_simp; done) | (go_simp; rfl)) ?aP (fun _ hk => hk.elim) ?aF ?aO ?aB ?aS ?aL ?_; (case aP => exact rfl); (case aB => exact u10_10); (case aF => exact (fun _ _ => trivial)); (case aO => exact u10_16); (case aS => exact (below_size u10_10)); (case aL => have := LMc31.out; omega); intro v479 w35 ho hb hg hat; rw [← Ny478.out] at ho; have n0_ := Aside0.mk (blk_grown (g := gb469) (o := .cells #[.slice A0_0 l0_0.length c0_0, .slice A0_1 l0_1.length c0_1, .slice A0_2 l0_2.length c0_2] 26 (0, 0)) u10_14 hg (Kd.R_ne HO_8.out BK469.out (by decide))); have n1_ := Aside0.mk (blk_grown (g := gb472) (o := .cells #[.int .i64 ((rd_T60 l1 x21_2).f0), .int .i64 ((rd_T60 l1 x21_2).f1)] 60 (0, 0)) u10_15 hg (Kd.R_ne HO_8.out BK472.out (by decide))); have n2_ := Aside0.mk (blk_grown (g := gb477) (o := .cells #[.int .i64 ((rd_T60 l1 x31_3).f0), .int .i64 ((rd_T60 l1 x31_3).f1)] 60 (0, 0)) (by (with_reducible repeat (first | refine blk_drewN ?_ _ | refine blk_drew ?_ | refine blk_alloc ?_ _)); refine blk_put (cs := #[.int .i64 ((rd_T60 l1 x31_3).f0), .int .i64 0]) ?_ 1 _ rfl; (with_reducible repeat (first | refine blk_drewN ?_ _ | refine blk_drew ?_ | refine blk_alloc ?_ _)); refine blk_put (cs := #[.int .i64 0, .int .i64 0]) ?_ 0 _ rfl; (with_reducible repeat (first | refine blk_drewN ?_ _ | refine blk_drew ?_ | refine blk_alloc ?_ _)); exact BK477.out) hg (Kd.R_ne HO_8.out BK477.out (by decide))); have n3_ := Aside0.mk (hb); have n4_ := Aside0.mk (ho); clear BK469; clear BK472; clear BK477; clear HB; clear HO_8; have BK469 := n0_; have BK472 := n1_; have BK477 := n2_; have HB := n3_; have HO480 := n4_; clear n0_ n1_ n2_ n3_ n4_; clear ho hb hg hat))
        go_roundg k3
        case measure => have := HJ2.out; have := HK2.out; have := HK3.out; omega
        case rel => exact ⟨(y478), (wrap64 (x31_3 + 1)), u10_9, H', ⟨u10_20⟩, ⟨(by (with_reducible repeat (first | apply Kd.R_alloc | apply Kd.R_drewN | apply Kd.R_drew)); exact HO480.out)⟩, ⟨u10_3⟩, ⟨u10_12⟩, ⟨u10_10⟩⟩

/-! ### impl_Quorum: function 40 -/
def impl_Quorum.f (k : Nat) (l0_0 : List Int) (l0_1 : List Int) (l0_2 : List Int) (l1 : List Int) : Option (Bool) := (impl_isConf.f k l0_0 l0_1 l0_2).bind fun t483 => (if t483 = true then ((impl_quorum.f k l0_0 l0_1 l0_2 l1).bind fun t484 => (some t484)) else (some false))
theorem impl_Quorum.mono : ∀ a0 a1 a2 a3 k, LeO (impl_Quorum.f k a0 a1 a2 a3) (impl_Quorum.f (k + 1) a0 a1 a2 a3) := by
  intro a0 a1 a2 a3 k
  unfold impl_Quorum.f
  repeat' first
      | (with_reducible exact impl_isConf.mono _ _ _ _)
      | (with_reducible exact impl_quorum.mono _ _ _ _ _)
      | (with_reducible exact LeO.refl _)
      | (with_reducible exact LeO.none _)
      | (with_reducible refine LeO.ite ?_ ?_)
      | (with_reducible refine LeO.bind ?_ (fun _ => ?_))
      | exact impl_isConf.mono _ _ _ _
      | exact impl_quorum.mono _ _ _ _ _
      | exact LeO.none _
      | refine LeO.ite ?_ ?_
      | refine LeO.bind ?_ (fun _ => ?_)
set_option maxHeartbeats 8000000 in
set_option maxRecDepth 100000 in
theorem impl_Quorum.calls (k : Nat) (A0_0 : Option Addr) (c0_0 : Nat) (l0_0 : List Int) (A0_1 : Option Addr) (c0_1 : Nat) (l0_1 : List Int) (A0_2 : Option Addr) (c0_2 : Nat) (l0_2 : List Int) (A1 : Option Addr) (c1 : Nat) (l1 : List Int) (r : Bool) (w : World) (hr0_0 : Kd.C (Kd.int .i64) w A0_0 l0_0.length l0_0) (hc0_0 : l0_0.length ≤ c0_0) (hr0_1 : Kd.C (Kd.int .i64) w A0_1 l0_1.length l0_1) (hc0_1 : l0_1.length ≤ c0_1) (hr0_2 : Kd.C (Kd.int .i64) w A0_2 l0_2.length l0_2) (hc0_2 : l0_2.length ≤ c0_2) (hr1 : Kd.C (Kd.int .i64) w A1 l1.length l1) (hc1 : l1.length ≤ c1) (h : impl_Quorum.f k l0_0 l0_1 l0_2 l1 = some r) :
    Calls Try.prog 40 #[.agg #[.slice A0_0 l0_0.length c0_0, .slice A0_1 l0_1.length c0_1, .slice A0_2 l0_2.length c0_2], .slice A1 l1.length c1] w fun e w' => e = .returned (.bool r) ∧ Below w.heap.size w w' := by
  have hu26 := Try.underlying26
  have HR0_0 := Aside0.mk hr0_0
  have HC0_0 := Aside0.mk hc0_0
  clear hr0_0 hc0_0
  have HR0_1 := Aside0.mk hr0_1
  have HC0_1 := Aside0.mk hc0_1
  clear hr0_1 hc0_1
  have HR0_2 := Aside0.mk hr0_2
  have HC0_2 := Aside0.mk hc0_2
  clear hr0_2 hc0_2
  have HR1 := Aside0.mk hr1
  have HC1 := Aside0.mk hc1
  clear hr1 hc1
  have HB := Aside0.mk (Below.refl w.heap.size w)
  have H : ((impl_isConf.f k l0_0 l0_1 l0_2).bind fun t483 => (if t483 = true then ((impl_quorum.f k l0_0 l0_1 l0_2 l1).bind fun t484 => (some t484)) else (some false))) = some r := h
  clear h
  replace H := Option.bind_eq_some_iff.mp H
  obtain ⟨t483, A30, H⟩ := H
  have A3 := Aside0.mk A30
  clear A30
  by_cases c4 : t483 = true
  rotate_left
  · replace c4 := Bool.eq_false_iff.mpr c4
    subst c4
    rw [if_neg (show ¬ (false = true) by decide)] at H
    obtain rfl := Option.some.inj H
    go_enter Try.func40, Try.ntmps40
    go_wp2_with (first | ((with_reducible refine gate_dst (N := 2) rfl ?_); refine box_event ?hg (N := 2) ?hd (cs := #[.slice A0_0 l0_0.length c0_0, .slice A0_1 l0_1.length c0_1, .slice A0_2 l0_2.length c0_2]) (t := 26) ?hr ?_; (case hd => rfl); (case hg => rfl); (case hr => first | (go_simp; done) | (go_simp; rfl)); intro gb482 hg w11 hbox hb; have n0_ := Aside0.mk (below_step u10_0 hb); have n1_ := Aside0.mk (hbox); have n2_ := Aside0.mk ((by rw [hg]; exact (below_size u10_0) : w.heap.size ≤ gb482)); have n3_ := Aside0.mk ((by rw [hg]; exact (below_size u10_0) : w.heap.size ≤ gb482)); clear HB; have HB := n0_; have BK482 := n1_; have GW482 := n2_; have GE482 := n3_; clear n0_ n1_ n2_ n3_; clear hb hbox hg; have hcz12_0 : w11.cell? ⟨gb482, 0, none⟩ = some (.slice A0_0 l0_0.length c0_0) := (blk_cell BK482.out 0).trans rfl; have hcz12_1 : w11.cell? ⟨gb482, 1, none⟩ = some (.slice A0_1 l0_1.length c0_1) := (blk_cell BK482.out 1).trans rfl; have hcz12_2 : w11.cell? ⟨gb482, 2, none⟩ = some (.slice A0_2 l0_2.length c0_2) := (blk_cell BK482.out 2).trans rfl; have hfz12_0 := blk_frozen BK482.out 0; have hfz12_1 := blk_frozen BK482.out 1; have hfz12_2 := blk_frozen BK482.out 2) | ((with_reducible refine gate_callee (f := 48) rfl ?_); refine goesL_ (some 6) rfl rfl Try.func48 (by kernel_rfl) rfl #[.agg #[.slice A0_0 l0_0.length c0_0, .slice A0_1 l0_1.length c0_1, .slice A0_2 l0_2.length c0_2]] rfl u10_8 ?_; (with_reducible refine (impl_isConf.calls k _ _ l0_0 _ _ l0_1 _ _ l0_2 false _ ?side1 ?side2 ?side3 ?side4 ?side5 ?side6 A3.out).mono ?_); (case side1 => exact u10_1); (case side2 => exact HC0_0.out); (case side3 => exact u10_4); (case side4 => exact HC0_1.out); (case side5 => exact u10_5); (case side6 => exact HC0_2.out); rintro e w13 ⟨rfl, hb⟩; refine ⟨_, rfl, ?_⟩; have n0_ := Aside0.mk (blk_below (g := gb482) (o := .cells #[.slice A0_0 l0_0.length c0_0, .slice A0_1 l0_1.length c0_1, .slice A0_2 l0_2.length c0_2] 26 (0, 0)) u10_18 hb); have n1_ := Aside0.mk (below_step u10_11 hb); clear BK482; clear HB; have BK482 := n0_; have HB := n1_; clear n0_ n1_; (try clear hb); (try clear hb2); (try clear hk); (try clear hi)))
    go_ret
    exact ⟨by first | rfl | (simp [errW_none, errW_some] <;> rfl) | (simp [*, errW_none, errW_some] <;> rfl), u10_11⟩
  subst c4
  rw [if_pos rfl] at H
  replace H := Option.bind_eq_some_iff.mp H
  obtain ⟨t484, A50, H⟩ := H
  replace H : (some t484) = some r := H
  have A5 := Aside0.mk A50
  clear A50
  obtain rfl := Option.some.inj H
  go_enter Try.func40, Try.ntmps40
  go_wp2_with (first | ((with_reducible refine gate_dst (N := 2) rfl ?_); refine box_event ?hg (N := 2) ?hd (cs := #[.slice A0_0 l0_0.length c0_0, .slice A0_1 l0_1.length c0_1, .slice A0_2 l0_2.length c0_2]) (t := 26) ?hr ?_; (case hd => rfl); (case hg => rfl); (case hr => first | (go_simp; done) | (go_simp; rfl)); intro gb482 hg w6 hbox hb; have n0_ := Aside0.mk (below_step u10_0 hb); have n1_ := Aside0.mk (hbox); have n2_ := Aside0.mk ((by rw [hg]; exact (below_size u10_0) : w.heap.size ≤ gb482)); have n3_ := Aside0.mk ((by rw [hg]; exact (below_size u10_0) : w.heap.size ≤ gb482)); clear HB; have HB := n0_; have BK482 := n1_; have GW482 := n2_; have GE482 := n3_; clear n0_ n1_ n2_ n3_; clear hb hbox hg; have hcz7_0 : w6.cell? ⟨gb482, 0, none⟩ = some (.slice A0_0 l0_0.length c0_0) := (blk_cell BK482.out 0).trans rfl; have hcz7_1 : w6.cell? ⟨gb482, 1, none⟩ = some (.slice A0_1 l0_1.length c0_1) := (blk_cell BK482.out 1).trans rfl; have hcz7_2 : w6.cell? ⟨gb482, 2, none⟩ = some (.slice A0_2 l0_2.length c0_2) := (blk_cell BK482.out 2).trans rfl; have hfz7_0 := blk_frozen BK482.out 0; have hfz7_1 := blk_frozen BK482.out 1; have hfz7_2 := blk_frozen BK482.out 2) | ((with_reducible refine gate_callee (f := 48) rfl ?_); refine goesL_ (some 6) rfl rfl Try.func48 (by kernel_rfl) rfl #[.agg #[.slice A0_0 l0_0.length c0_0, .slice A0_1 l0_1.length c0_1, .slice A0_2 l0_2.length c0_2]] rfl u10_8 ?_; (with_reducible refine (impl_isConf.calls k _ _ l0_0 _ _ l0_1 _ _ l0_2 true _ ?side1 ?side2 ?side3 ?side4 ?side5 ?side6 A3.out).mono ?_); (case side1 => exact u10_1); (case side2 => exact HC0_0.out); (case side3 => exact u10_4); (case side4 => exact HC0_1.out); (case side5 => exact u10_5); (case side6 => exact HC0_2.out); rintro e w8 ⟨rfl, hb⟩; refine ⟨_, rfl, ?_⟩; have n0_ := Aside0.mk (blk_below (g := gb482) (o := .cells #[.slice A0_0 l0_0.length c0_0, .slice A0_1 l0_1.length c0_1, .slice A0_2 l0_2.length c0_2] 26 (0, 0)) u10_18 hb); have n1_ := Aside0.mk (below_step u10_11 hb); clear BK482; clear HB; have BK482 := n0_; have HB := n1_; clear n0_ n1_; (try clear hb); (try clear hb2); (try clear hk); (try clear hi); have hcz9_0 : w8.cell? ⟨gb482, 0, none⟩ = some (.slice A0_0 l0_0.length c0_0) := (blk_cell BK482.out 0).trans rfl; have hcz9_1 : w8.cell? ⟨gb482, 1, none⟩ = some (.slice A0_1 l0_1.length c0_1) := (blk_cell BK482.out 1).trans rfl; have hcz9_2 : w8.cell? ⟨gb482, 2, none⟩ = some (.slice A0_2 l0_2.length c0_2) := (blk_cell BK482.out 2).trans rfl; have hfz9_0 := blk_frozen BK482.out 0; have hfz9_1 := blk_frozen BK482.out 1; have hfz9_2 := blk_frozen BK482.out 2) | (go_at_call 65; (with_reducible refine (impl_quorum.calls k _ _ l0_0 _ _ l0_1 _ _ l0_2 _ _ l1 t484 _ ?side1 ?side2 ?side3 ?side4 ?side5 ?side6 ?side7 ?side8 A5.out).mono ?_); (case side1 => exact u10_1); (case side2 => exact HC0_0.out); (case side3 => exact u10_4); (case side4 => exact HC0_1.out); (case side5 => exact u10_5); (case side6 => exact HC0_2.out); (case side7 => exact u10_13); (case side8 => exact HC1.out); rintro e w10 ⟨rfl, hb⟩; have n0_ := Aside0.mk (blk_below (g := gb482) (o := .cells #[.slice A0_0 l0_0.length c0_0, .slice A0_1 l0_1.length c0_1, .slice A0_2 l0_2.length c0_2] 26 (0, 0)) u10_18 hb); have n1_ := Aside0.mk (below_step u10_11 hb); clear BK482; clear HB; have BK482 := n0_; have HB := n1_; clear n0_ n1_; (try clear hb); (try clear hb2); (try clear hk); (try clear hi)))
  go_ret
  exact ⟨by first | rfl | (simp [errW_none, errW_some] <;> rfl) | (simp [*, errW_none, errW_some] <;> rfl), u10_11⟩

/-! ### spec_l06Half: function 66 -/
def spec_l06Half.l0 : Nat → List Int → List Int → Int → Int → Option (Bool)
  | 0, _, _, _, _ => none
  | k + 1, x0, x1, x5, x6 => if x6 < (x0.length : Int) then (if 0 ≤ x6 then ((spec_l01Has.f k x1 (rd x0 x6)).bind fun t486 => (if t486 = true then (spec_l06Half.l0 k x0 x1 (wrap64 (x5 + 1)) (wrap64 (x6 + 1))) else (spec_l06Half.l0 k x0 x1 x5 (wrap64 (x6 + 1))))) else (none)) else (some (decide ((wrap64 (2 * x5)) > (x0.length : Int))))
def spec_l06Half.f (k : Nat) (l0 : List Int) (l1 : List Int) : Option (Bool) := spec_l06Half.l0 k l0 l1 0 0
theorem spec_l06Half.mono_l : ∀ k, (∀ y0 y1 y2 y3, LeO (spec_l06Half.l0 k y0 y1 y2 y3) (spec_l06Half.l0 (k + 1) y0 y1 y2 y3))
  | 0 => fun _ _ _ _ r h => by simp [spec_l06Half.l0] at h
  | k + 1 => by
    have ih0 := spec_l06Half.mono_l k
    · intro y0 y1 y2 y3
      unfold spec_l06Half.l0
      repeat' first
      | (with_reducible exact ih0 _ _ _ _)
      | (with_reducible exact spec_l01Has.mono _ _ _)
      | (with_reducible exact LeO.refl _)
      | (with_reducible exact LeO.none _)
      | (with_reducible refine LeO.ite ?_ ?_)
      | (with_reducible refine LeO.bind ?_ (fun _ => ?_))
      | exact ih0 _ _ _ _
      | exact spec_l01Has.mono _ _ _
      | exact LeO.none _
      | refine LeO.ite ?_ ?_
      | refine LeO.bind ?_ (fun _ => ?_)
theorem spec_l06Half.mono : ∀ a0 a1 k, LeO (spec_l06Half.f k a0 a1) (spec_l06Half.f (k + 1) a0 a1) := by
  intro a0 a1 k
  have ih0 := spec_l06Half.mono_l k
  unfold spec_l06Half.f
  repeat' first
      | (with_reducible exact ih0 _ _ _ _)
      | (with_reducible exact spec_l01Has.mono _ _ _)
      | (with_reducible exact LeO.refl _)
      | (with_reducible exact LeO.none _)
      | (with_reducible refine LeO.ite ?_ ?_)
      | (with_reducible refine LeO.bind ?_ (fun _ => ?_))
      | exact ih0 _ _ _ _
      | exact spec_l01Has.mono _ _ _
      | exact LeO.none _
      | refine LeO.ite ?_ ?_
      | refine LeO.bind ?_ (fun _ => ?_)
set_option maxHeartbeats 8000000 in
set_option maxRecDepth 100000 in
theorem spec_l06Half.calls (k : Nat) (A0 : Option Addr) (c0 : Nat) (l0 : List Int) (A1 : Option Addr) (c1 : Nat) (l1 : List Int) (r : Bool) (w : World) (hr0 : Kd.C (Kd.int .i64) w A0 l0.length l0) (hc0 : l0.length ≤ c0) (hr1 : Kd.C (Kd.int .i64) w A1 l1.length l1) (hc1 : l1.length ≤ c1) (h : spec_l06Half.f k l0 l1 = some r) :
    Calls Try.prog 66 #[.slice A0 l0.length c0, .slice A1 l1.length c1] w fun e w' => e = .returned (.bool r) ∧ Drawn0 w w' := by
  have HR0 := Aside0.mk hr0
  have HC0 := Aside0.mk hc0
  clear hr0 hc0
  have HR1 := Aside0.mk hr1
  have HC1 := Aside0.mk hc1
  clear hr1 hc1
  have H : (spec_l06Half.l0 k l0 l1 0 0) = some r := h
  clear h
  have H' := Aside0.mk H
  clear H
  go_enter Try.func66, Try.ntmps66
  go_wp2
  go_loopg [5, 6] k (fun kq v5 v6 w' => ∃ (x5_1 : Int) (x6_1 : Int), v5 = .int .i64 x5_1 ∧ v6 = .int .i64 x6_1 ∧ Aside0 (spec_l06Half.l0 kq l0 l1 x5_1 x6_1 = some r) ∧ Aside0 (kq ≤ k) ∧ Drawn0 w w')
  case atStart => exact ⟨(0), (0), u10_9, u10_9, H', ⟨Nat.le_refl _⟩, u10_21⟩
  clear H'
  try clear c1
  try clear p2
  obtain ⟨x5_1, x6_1, rfl, rfl, HA, HK1, ⟨m1, rfl⟩⟩ := hrel
  cases gk with
  | zero => exact absurd HA.out (by simp [spec_l06Half.l0])
  | succ k1 =>
    have H := HA.out
    clear HA
    simp only [spec_l06Half.l0] at H
    by_cases c3 : x6_1 < (l0.length : Int)
    rotate_left
    · rw [if_neg c3] at H
      have c3b0 : decide (x6_1 < (l0.length : Int)) = false := decide_eq_false c3
      clear c3
      obtain rfl := Option.some.inj H
      go_wp2
      go_ret
      exact ⟨by first | rfl | (simp; done) | (simp [*]; done), u10_21⟩
    rw [if_pos c3] at H
    have c3b0 : decide (x6_1 < (l0.length : Int)) = true := decide_eq_true c3
    clear c3
    by_cases c4 : 0 ≤ x6_1
    rotate_left
    · rw [if_neg c4] at H
      exact absurd H (by simp)
    rw [if_pos c4] at H
    have c4b0 : decide (0 ≤ x6_1) = true := decide_eq_true c4
    clear c4
    replace H := Option.bind_eq_some_iff.mp H
    obtain ⟨t486, A50, H⟩ := H
    have A5 := Aside0.mk A50
    clear A50
    have H9 := Aside0.mk H
    clear H
    have p485 : 0 ≤ (x6_1 : Int) := of_decide_eq_true u10_19
    have q485 : x6_1 < (l0.length : Int) := of_decide_eq_true u10_19
    obtain ⟨ad485, e485, hx485_0⟩ := Kd.at_int HR0.out x6_1 p485 q485
    cases e485
    replace p485 := eq_true p485
    replace q485 := eq_true q485
    go_upto_if 18 with (first | ((with_reducible refine gate_callee (f := 54) rfl ?_); refine goesL_ (some 18) rfl rfl Try.func54 (by kernel_rfl) rfl #[.slice A1 l1.length c1, .int .i64 (rd l0 x6_1)] rfl u10_8 ?_; (with_reducible refine (spec_l01Has.calls k1 _ _ l1 (rd l0 x6_1) t486 _ ?side1 ?side2 A5.out).mono ?_); (case side1 => exact (by repeat (first | exact HR1.out | (with_reducible refine Kd.C_alloc ?_ _) | (with_reducible refine Kd.C_drewN ?_ _) | (with_reducible refine Kd.C_drew ?_)))); (case side2 => exact HC1.out); rintro e w' ⟨rfl, ⟨nd, rfl⟩⟩; refine ⟨_, rfl, ?_⟩))
    have H := H9.out
    clear H9
    by_cases c6 : t486 = true
    · subst c6
      rw [if_pos rfl] at H
      have H' := Aside0.mk H
      clear H
      go_wp2
      go_roundg k1
      case measure => have := HK1.out; omega
      case rel => exact ⟨(wrap64 (x5_1 + 1)), (wrap64 (x6_1 + 1)), u10_9, u10_9, H', ⟨by have := HK1.out; omega⟩, u10_21⟩
    replace c6 := Bool.eq_false_iff.mpr c6
    subst c6
    rw [if_neg (show ¬ (false = true) by decide)] at H
    have H' := Aside0.mk H
    clear H
    go_wp2
    go_roundg k1
    case measure => have := HK1.out; omega
    case rel => exact ⟨(x5_1), (wrap64 (x6_1 + 1)), u10_9, u10_9, H', ⟨by have := HK1.out; omega⟩, u10_21⟩

/-! ### spec_Quorum: function 42 -/
def spec_Quorum.f (k : Nat) (l0_0 : List Int) (l0_1 : List Int) (l0_2 : List Int) (l1 : List Int) : Option (Bool) := (spec_ConfOk.f k l0_0 l0_1 l0_2).bind fun t488 => (if t488 = true then ((spec_l06Half.f k l0_0 l1).bind fun t489 => (if t489 = true then (if (l0_1.length : Int) = 0 then (some true) else ((spec_l06Half.f k l0_1 l1).bind fun t490 => (some t490))) else (some false))) else (some false))
theorem spec_Quorum.mono : ∀ a0 a1 a2 a3 k, LeO (spec_Quorum.f k a0 a1 a2 a3) (spec_Quorum.f (k + 1) a0 a1 a2 a3) := by
  intro a0 a1 a2 a3 k
  unfold spec_Quorum.f
  repeat' first
      | (with_reducible exact spec_ConfOk.mono _ _ _ _)
      | (with_reducible exact spec_l06Half.mono _ _ _)
      | (with_reducible exact LeO.refl _)
      | (with_reducible exact LeO.none _)
      | (with_reducible refine LeO.ite ?_ ?_)
      | (with_reducible refine LeO.bind ?_ (fun _ => ?_))
      | exact spec_ConfOk.mono _ _ _ _
      | exact spec_l06Half.mono _ _ _
      | exact LeO.none _
      | refine LeO.ite ?_ ?_
      | refine LeO.bind ?_ (fun _ => ?_)
set_option maxHeartbeats 8000000 in
set_option maxRecDepth 100000 in
theorem spec_Quorum.calls (k : Nat) (A0_0 : Option Addr) (c0_0 : Nat) (l0_0 : List Int) (A0_1 : Option Addr) (c0_1 : Nat) (l0_1 : List Int) (A0_2 : Option Addr) (c0_2 : Nat) (l0_2 : List Int) (A1 : Option Addr) (c1 : Nat) (l1 : List Int) (r : Bool) (w : World) (hr0_0 : Kd.C (Kd.int .i64) w A0_0 l0_0.length l0_0) (hc0_0 : l0_0.length ≤ c0_0) (hr0_1 : Kd.C (Kd.int .i64) w A0_1 l0_1.length l0_1) (hc0_1 : l0_1.length ≤ c0_1) (hr0_2 : Kd.C (Kd.int .i64) w A0_2 l0_2.length l0_2) (hc0_2 : l0_2.length ≤ c0_2) (hr1 : Kd.C (Kd.int .i64) w A1 l1.length l1) (hc1 : l1.length ≤ c1) (h : spec_Quorum.f k l0_0 l0_1 l0_2 l1 = some r) :
    Calls Try.prog 42 #[.agg #[.slice A0_0 l0_0.length c0_0, .slice A0_1 l0_1.length c0_1, .slice A0_2 l0_2.length c0_2], .slice A1 l1.length c1] w fun e w' => e = .returned (.bool r) ∧ Below w.heap.size w w' := by
  have hu26 := Try.underlying26
  have HR0_0 := Aside0.mk hr0_0
  have HC0_0 := Aside0.mk hc0_0
  clear hr0_0 hc0_0
  have HR0_1 := Aside0.mk hr0_1
  have HC0_1 := Aside0.mk hc0_1
  clear hr0_1 hc0_1
  have HR0_2 := Aside0.mk hr0_2
  have HC0_2 := Aside0.mk hc0_2
  clear hr0_2 hc0_2
  have HR1 := Aside0.mk hr1
  have HC1 := Aside0.mk hc1
  clear hr1 hc1
  have HB := Aside0.mk (Below.refl w.heap.size w)
  have H : ((spec_ConfOk.f k l0_0 l0_1 l0_2).bind fun t488 => (if t488 = true then ((spec_l06Half.f k l0_0 l1).bind fun t489 => (if t489 = true then (if (l0_1.length : Int) = 0 then (some true) else ((spec_l06Half.f k l0_1 l1).bind fun t490 => (some t490))) else (some false))) else (some false))) = some r := h
  clear h
  replace H := Option.bind_eq_some_iff.mp H
  obtain ⟨t488, A30, H⟩ := H
  have A3 := Aside0.mk A30
  clear A30
  by_cases c4 : t488 = true
  rotate_left
  · replace c4 := Bool.eq_false_iff.mpr c4
    subst c4
    rw [if_neg (show ¬ (false = true) by decide)] at H
    obtain rfl := Option.some.inj H
    go_enter Try.func42, Try.ntmps42
    go_wp2_with (first | ((with_reducible refine gate_dst (N := 2) rfl ?_); (try (refine gate_guard (by rfl) ?_; dsimp only)); refine box_event ?hg (N := 2) ?hd (cs := #[.slice A0_0 l0_0.length c0_0, .slice A0_1 l0_1.length c0_1, .slice A0_2 l0_2.length c0_2]) (t := 26) ?hr ?_; (case hd => rfl); (case hg => rfl); (case hr => first | (go_simp; done) | (go_simp; rfl)); intro gb487 hg w21 hbox hb; have n0_ := Aside0.mk (below_step u10_0 hb); have n1_ := Aside0.mk (hbox); have n2_ := Aside0.mk ((by rw [hg]; exact (below_size u10_0) : w.heap.size ≤ gb487)); have n3_ := Aside0.mk ((by rw [hg]; exact (below_size u10_0) : w.heap.size ≤ gb487)); clear HB; have HB := n0_; have BK487 := n1_; have GW487 := n2_; have GE487 := n3_; clear n0_ n1_ n2_ n3_; clear hb hbox hg; have hcz22_0 : w21.cell? ⟨gb487, 0, none⟩ = some (.slice A0_0 l0_0.length c0_0) := (blk_cell BK487.out 0).trans rfl; have hcz22_1 : w21.cell? ⟨gb487, 1, none⟩ = some (.slice A0_1 l0_1.length c0_1) := (blk_cell BK487.out 1).trans rfl; have hcz22_2 : w21.cell? ⟨gb487, 2, none⟩ = some (.slice A0_2 l0_2.length c0_2) := (blk_cell BK487.out 2).trans rfl; have hfz22_0 := blk_frozen BK487.out 0; have hfz22_1 := blk_frozen BK487.out 1; have hfz22_2 := blk_frozen BK487.out 2) | ((with_reducible refine gate_callee (f := 53) rfl ?_); refine goesL_ (some 6) rfl rfl Try.func53 (by kernel_rfl) rfl #[.agg #[.slice A0_0 l0_0.length c0_0, .slice A0_1 l0_1.length c0_1, .slice A0_2 l0_2.length c0_2]] rfl u10_8 ?_; (with_reducible refine (spec_ConfOk.calls k _ _ l0_0 _ _ l0_1 _ _ l0_2 false _ ?side1 ?side2 ?side3 ?side4 ?side5 ?side6 A3.out).mono ?_); (case side1 => exact u10_1); (case side2 => exact HC0_0.out); (case side3 => exact u10_4); (case side4 => exact HC0_1.out); (case side5 => exact u10_5); (case side6 => exact HC0_2.out); rintro e w23 ⟨rfl, hb⟩; refine ⟨_, rfl, ?_⟩; have n0_ := Aside0.mk (blk_below (g := gb487) (o := .cells #[.slice A0_0 l0_0.length c0_0, .slice A0_1 l0_1.length c0_1, .slice A0_2 l0_2.length c0_2] 26 (0, 0)) u10_17 hb); have n1_ := Aside0.mk (below_step u10_7 hb); clear BK487; clear HB; have BK487 := n0_; have HB := n1_; clear n0_ n1_; (try clear hb); (try clear hb2); (try clear hk); (try clear hi)))
    go_ret
    exact ⟨by first | rfl | (simp [errW_none, errW_some] <;> rfl) | (simp [*, errW_none, errW_some] <;> rfl), u10_7⟩
  subst c4
  rw [if_pos rfl] at H
  replace H := Option.bind_eq_some_iff.mp H
  obtain ⟨t489, A50, H⟩ := H
  have A5 := Aside0.mk A50
  clear A50
  by_cases c6 : t489 = true
  rotate_left
  · replace c6 := Bool.eq_false_iff.mpr c6
    subst c6
    rw [if_neg (show ¬ (false = true) by decide)] at H
    obtain rfl := Option.some.inj H
    go_enter Try.func42, Try.ntmps42
    go_wp2_with (first | ((with_reducible refine gate_dst (N := 2) rfl ?_); (try (refine gate_guard (by rfl) ?_; dsimp only)); refine box_event ?hg (N := 2) ?hd (cs := #[.slice A0_0 l0_0.length c0_0, .slice A0_1 l0_1.length c0_1, .slice A0_2 l0_2.length c0_2]) (t := 26) ?hr ?_; (case hd => rfl); (case hg => rfl); (case hr => first | (go_simp; done) | (go_simp; rfl)); intro gb487 hg w17 hbox hb; have n0_ := Aside0.mk (below_step u10_0 hb); have n1_ := Aside0.mk (hbox); have n2_ := Aside0.mk ((by rw [hg]; exact (below_size u10_0) : w.heap.size ≤ gb487)); have n3_ := Aside0.mk ((by rw [hg]; exact (below_size u10_0) : w.heap.size ≤ gb487)); clear HB; have HB := n0_; have BK487 := n1_; have GW487 := n2_; have GE487 := n3_; clear n0_ n1_ n2_ n3_; clear hb hbox hg; have hcz18_0 : w17.cell? ⟨gb487, 0, none⟩ = some (.slice A0_0 l0_0.length c0_0) := (blk_cell BK487.out 0).trans rfl; have hcz18_1 : w17.cell? ⟨gb487, 1, none⟩ = some (.slice A0_1 l0_1.length c0_1) := (blk_cell BK487.out 1).trans rfl; have hcz18_2 : w17.cell? ⟨gb487, 2, none⟩ = some (.slice A0_2 l0_2.length c0_2) := (blk_cell BK487.out 2).trans rfl; have hfz18_0 := blk_frozen BK487.out 0; have hfz18_1 := blk_frozen BK487.out 1; have hfz18_2 := blk_frozen BK487.out 2) | ((with_reducible refine gate_callee (f := 53) rfl ?_); refine goesL_ (some 6) rfl rfl Try.func53 (by kernel_rfl) rfl #[.agg #[.slice A0_0 l0_0.length c0_0, .slice A0_1 l0_1.length c0_1, .slice A0_2 l0_2.length c0_2]] rfl u10_8 ?_; (with_reducible refine (spec_ConfOk.calls k _ _ l0_0 _ _ l0_1 _ _ l0_2 true _ ?side1 ?side2 ?side3 ?side4 ?side5 ?side6 A3.out).mono ?_); (case side1 => exact u10_1); (case side2 => exact HC0_0.out); (case side3 => exact u10_4); (case side4 => exact HC0_1.out); (case side5 => exact u10_5); (case side6 => exact HC0_2.out); rintro e w19 ⟨rfl, hb⟩; refine ⟨_, rfl, ?_⟩; have n0_ := Aside0.mk (blk_below (g := gb487) (o := .cells #[.slice A0_0 l0_0.length c0_0, .slice A0_1 l0_1.length c0_1, .slice A0_2 l0_2.length c0_2] 26 (0, 0)) u10_17 hb); have n1_ := Aside0.mk (below_step u10_7 hb); clear BK487; clear HB; have BK487 := n0_; have HB := n1_; clear n0_ n1_; (try clear hb); (try clear hb2); (try clear hk); (try clear hi); have hcz20_0 : w19.cell? ⟨gb487, 0, none⟩ = some (.slice A0_0 l0_0.length c0_0) := (blk_cell BK487.out 0).trans rfl; have hcz20_1 : w19.cell? ⟨gb487, 1, none⟩ = some (.slice A0_1 l0_1.length c0_1) := (blk_cell BK487.out 1).trans rfl; have hcz20_2 : w19.cell? ⟨gb487, 2, none⟩ = some (.slice A0_2 l0_2.length c0_2) := (blk_cell BK487.out 2).trans rfl; have hfz20_0 := blk_frozen BK487.out 0; have hfz20_1 := blk_frozen BK487.out 1; have hfz20_2 := blk_frozen BK487.out 2) | (go_at_call 66; (with_reducible refine (spec_l06Half.calls k _ _ l0_0 _ _ l1 false _ ?side1 ?side2 ?side3 ?side4 A5.out).mono ?_); (case side1 => exact u10_1); (case side2 => exact HC0_0.out); (case side3 => exact u10_13); (case side4 => exact HC1.out); rintro e w' ⟨rfl, ⟨nd, rfl⟩⟩))
    go_ret
    exact ⟨by first | rfl | (simp [errW_none, errW_some] <;> rfl) | (simp [*, errW_none, errW_some] <;> rfl), u10_7⟩
  subst c6
  rw [if_pos rfl] at H
  by_cases c7 : (l0_1.length : Int) = 0
  · rw [if_pos c7] at H
    have c7b0 : ((l0_1.length : Int) == 0) = true := beq_iff_eq.mpr c7
    have c7b1 : ((l0_1.length : Int) != 0) = false := bne_eq_false_iff_eq.mpr c7
    clear c7
    obtain rfl := Option.some.inj H
    go_enter Try.func42, Try.ntmps42
    go_wp2_with (first | ((with_reducible refine gate_dst (N := 2) rfl ?_); (try (refine gate_guard (by rfl) ?_; dsimp only)); refine box_event ?hg (N := 2) ?hd (cs := #[.slice A0_0 l0_0.length c0_0, .slice A0_1 l0_1.length c0_1, .slice A0_2 l0_2.length c0_2]) (t := 26) ?hr ?_; (case hd => rfl); (case hg => rfl); (case hr => first | (go_simp; done) | (go_simp; rfl)); intro gb487 hg w8 hbox hb; have n0_ := Aside0.mk (below_step u10_0 hb); have n1_ := Aside0.mk (hbox); have n2_ := Aside0.mk ((by rw [hg]; exact (below_size u10_0) : w.heap.size ≤ gb487)); have n3_ := Aside0.mk ((by rw [hg]; exact (below_size u10_0) : w.heap.size ≤ gb487)); clear HB; have HB := n0_; have BK487 := n1_; have GW487 := n2_; have GE487 := n3_; clear n0_ n1_ n2_ n3_; clear hb hbox hg; have hcz9_0 : w8.cell? ⟨gb487, 0, none⟩ = some (.slice A0_0 l0_0.length c0_0) := (blk_cell BK487.out 0).trans rfl; have hcz9_1 : w8.cell? ⟨gb487, 1, none⟩ = some (.slice A0_1 l0_1.length c0_1) := (blk_cell BK487.out 1).trans rfl; have hcz9_2 : w8.cell? ⟨gb487, 2, none⟩ = some (.slice A0_2 l0_2.length c0_2) := (blk_cell BK487.out 2).trans rfl; have hfz9_0 := blk_frozen BK487.out 0; have hfz9_1 := blk_frozen BK487.out 1; have hfz9_2 := blk_frozen BK487.out 2) | ((with_reducible refine gate_callee (f := 53) rfl ?_); refine goesL_ (some 6) rfl rfl Try.func53 (by kernel_rfl) rfl #[.agg #[.slice A0_0 l0_0.length c0_0, .slice A0_1 l0_1.length c0_1, .slice A0_2 l0_2.length c0_2]] rfl u10_8 ?_; (with_reducible refine (spec_ConfOk.calls k _ _ l0_0 _ _ l0_1 _ _ l0_2 true _ ?side1 ?side2 ?side3 ?side4 ?side5 ?side6 A3.out).mono ?_); (case side1 => exact u10_1); (case side2 => exact HC0_0.out); (case side3 => exact u10_4); (case side4 => exact HC0_1.out); (case side5 => exact u10_5); (case side6 => exact HC0_2.out); rintro e w10 ⟨rfl, hb⟩; refine ⟨_, rfl, ?_⟩; have n0_ := Aside0.mk (blk_below (g := gb487) (o := .cells #[.slice A0_0 l0_0.length c0_0, .slice A0_1 l0_1.length c0_1, .slice A0_2 l0_2.length c0_2] 26 (0, 0)) u10_17 hb); have n1_ := Aside0.mk (below_step u10_7 hb); clear BK487; clear HB; have BK487 := n0_; have HB := n1_; clear n0_ n1_; (try clear hb); (try clear hb2); (try clear hk); (try clear hi); have hcz11_0 : w10.cell? ⟨gb487, 0, none⟩ = some (.slice A0_0 l0_0.length c0_0) := (blk_cell BK487.out 0).trans rfl; have hcz11_1 : w10.cell? ⟨gb487, 1, none⟩ = some (.slice A0_1 l0_1.length c0_1) := (blk_cell BK487.out 1).trans rfl; have hcz11_2 : w10.cell? ⟨gb487, 2, none⟩ = some (.slice A0_2 l0_2.length c0_2) := (blk_cell BK487.out 2).trans rfl; have hfz11_0 := blk_frozen BK487.out 0; have hfz11_1 := blk_frozen BK487.out 1; have hfz11_2 := blk_frozen BK487.out 2) | (go_at_call 66; (with_reducible refine (spec_l06Half.calls k _ _ l0_0 _ _ l1 true _ ?side1 ?side2 ?side3 ?side4 A5.out).mono ?_); (case side1 => exact u10_1); (case side2 => exact HC0_0.out); (case side3 => exact u10_13); (case side4 => exact HC1.out); rintro e w' ⟨rfl, ⟨nd, rfl⟩⟩))
    go_ret
    exact ⟨by first | rfl | (simp [errW_none, errW_some] <;> rfl) | (simp [*, errW_none, errW_some] <;> rfl), u10_7⟩
  rw [if_neg c7] at H
  have c7b0 : ((l0_1.length : Int) == 0) = false := beq_eq_false_iff_ne.mpr c7
  have c7b1 : ((l0_1.length : Int) != 0) = true := bne_iff_ne.mpr c7
  have c7b2 : ¬ (l0_1 = []) := fun h_ => c7 (by rw [h_]; rfl)
  replace H := Option.bind_eq_some_iff.mp H
  obtain ⟨t490, A120, H⟩ := H
  replace H : (some t490) = some r := H
  have A12 := Aside0.mk A120
  clear A120
  obtain rfl := Option.some.inj H
  go_enter Try.func42, Try.ntmps42
  go_wp2_with (first | ((with_reducible refine gate_dst (N := 2) rfl ?_); (try (refine gate_guard (by rfl) ?_; dsimp only)); refine box_event ?hg (N := 2) ?hd (cs := #[.slice A0_0 l0_0.length c0_0, .slice A0_1 l0_1.length c0_1, .slice A0_2 l0_2.length c0_2]) (t := 26) ?hr ?_; (case hd => rfl); (case hg => rfl); (case hr => first | (go_simp; done) | (go_simp; rfl)); intro gb487 hg w13 hbox hb; have n0_ := Aside0.mk (below_step u10_0 hb); have n1_ := Aside0.mk (hbox); have n2_ := Aside0.mk ((by rw [hg]; exact (below_size u10_0) : w.heap.size ≤ gb487)); have n3_ := Aside0.mk ((by rw [hg]; exact (below_size u10_0) : w.heap.size ≤ gb487)); clear HB; have HB := n0_; have BK487 := n1_; have GW487 := n2_; have GE487 := n3_; clear n0_ n1_ n2_ n3_; clear hb hbox hg; have hcz14_0 : w13.cell? ⟨gb487, 0, none⟩ = some (.slice A0_0 l0_0.length c0_0) := (blk_cell BK487.out 0).trans rfl; have hcz14_1 : w13.cell? ⟨gb487, 1, none⟩ = some (.slice A0_1 l0_1.length c0_1) := (blk_cell BK487.out 1).trans rfl; have hcz14_2 : w13.cell? ⟨gb487, 2, none⟩ = some (.slice A0_2 l0_2.length c0_2) := (blk_cell BK487.out 2).trans rfl; have hfz14_0 := blk_frozen BK487.out 0; have hfz14_1 := blk_frozen BK487.out 1; have hfz14_2 := blk_frozen BK487.out 2) | ((with_reducible refine gate_callee (f := 53) rfl ?_); refine goesL_ (some 6) rfl rfl Try.func53 (by kernel_rfl) rfl #[.agg #[.slice A0_0 l0_0.length c0_0, .slice A0_1 l0_1.length c0_1, .slice A0_2 l0_2.length c0_2]] rfl u10_8 ?_; (with_reducible refine (spec_ConfOk.calls k _ _ l0_0 _ _ l0_1 _ _ l0_2 true _ ?side1 ?side2 ?side3 ?side4 ?side5 ?side6 A3.out).mono ?_); (case side1 => exact u10_1); (case side2 => exact HC0_0.out); (case side3 => exact u10_4); (case side4 => exact HC0_1.out); (case side5 => exact u10_5); (case side6 => exact HC0_2.out); rintro e w15 ⟨rfl, hb⟩; refine ⟨_, rfl, ?_⟩; have n0_ := Aside0.mk (blk_below (g := gb487) (o := .cells #[.slice A0_0 l0_0.length c0_0, .slice A0_1 l0_1.length c0_1, .slice A0_2 l0_2.length c0_2] 26 (0, 0)) u10_17 hb); have n1_ := Aside0.mk (below_step u10_7 hb); clear BK487; clear HB; have BK487 := n0_; have HB := n1_; clear n0_ n1_; (try clear hb); (try clear hb2); (try clear hk); (try clear hi); have hcz16_0 : w15.cell? ⟨gb487, 0, none⟩ = some (.slice A0_0 l0_0.length c0_0) := (blk_cell BK487.out 0).trans rfl; have hcz16_1 : w15.cell? ⟨gb487, 1, none⟩ = some (.slice A0_1 l0_1.length c0_1) := (blk_cell BK487.out 1).trans rfl; have hcz16_2 : w15.cell? ⟨gb487, 2, none⟩ = some (.slice A0_2 l0_2.length c0_2) := (blk_cell BK487.out 2).trans rfl; have hfz16_0 := blk_frozen BK487.out 0; have hfz16_1 := blk_frozen BK487.out 1; have hfz16_2 := blk_frozen BK487.out 2) | (go_at_call 66; (with_reducible refine (spec_l06Half.calls k _ _ l0_0 _ _ l1 true _ ?side1 ?side2 ?side3 ?side4 A5.out).mono ?_); (case side1 => exact u10_1); (case side2 => exact HC0_0.out); (case side3 => exact u10_13); (case side4 => exact HC1.out); rintro e w' ⟨rfl, ⟨nd, rfl⟩⟩) | (go_at_call 66; (with_reducible refine (spec_l06Half.calls k _ _ l0_1 _ _ l1 t490 _ ?side1 ?side2 ?side3 ?side4 A12.out).mono ?_); (case side1 => exact (by repeat (first | exact (Kd.C_below HR0_1.out u10_7) | (with_reducible refine Kd.C_alloc ?_ _) | (with_reducible refine Kd.C_drewN ?_ _) | (with_reducible refine Kd.C_drew ?_)))); (case side2 => exact HC0_1.out); (case side3 => exact (by repeat (first | exact (Kd.C_below HR1.out u10_7) | (with_reducible refine Kd.C_alloc ?_ _) | (with_reducible refine Kd.C_drewN ?_ _) | (with_reducible refine Kd.C_drew ?_)))); (case side4 => exact HC1.out); rintro e w' ⟨rfl, ⟨nd, rfl⟩⟩))
  go_ret
  exact ⟨by first | rfl | (simp [errW_none, errW_some] <;> rfl) | (simp [*, errW_none, errW_some] <;> rfl), u10_7⟩

end Go.Proofs.Ytoemdmjdpikfbaa.QFnCommits
