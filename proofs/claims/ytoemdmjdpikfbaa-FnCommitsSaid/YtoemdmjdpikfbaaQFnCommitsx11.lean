-- Printed by the session's own program wip/prx.py.
import Derived.Test.YtoemdmjdpikfbaaQFnCommitsx0
import Derived.Test.YtoemdmjdpikfbaaQFnCommitsx2
import Derived.Test.YtoemdmjdpikfbaaQFnCommitsx10
namespace Go.Proofs.Ytoemdmjdpikfbaa.QFnCommits
open Go.RowKit Go.Proofs.YtoemdmjdpikfbaaW.PrintWords Go.Proofs.YtoemdmjdpikfbaaW.PrintLast Go.Proofs.YtoemdmjdpikfbaaW.PrintMore
attribute [local go_sem] max2_int min2_int max_two min_two max_three min_three max_four min_four Go.Proofs.Ytoemdmjdpikfbaa.Set.isSome_setCell   -- for this text's walks alone
set_option linter.unusedVariables false
set_option linter.unusedSimpArgs false

-- squeezed
theorem u11_0 {P : Prop} (h : P := by repeat (first | (with_reducible first | exact HB.out | apply below_alloc | apply pw_below_drewN | apply below_drew1 | refine below_set ?_ GE491.out) | exact HB.out)) : P := h
theorem u11_1 {P : Prop} (h : P := by (with_reducible repeat (first | refine blk_drewN ?_ _ | refine blk_drew ?_ | refine blk_alloc ?_ _)); exact BK491.out) : P := h
theorem u11_2 {P : Prop} (h : P := by repeat (first | (with_reducible first | exact HB.out | apply below_alloc | apply pw_below_drewN | apply below_drew1) | exact HB.out)) : P := h
theorem u11_3 {P : Prop} (h : P := by repeat (first | exact (Kd.C_below HR0_0.out HB.out) | (with_reducible refine Kd.C_alloc ?_ _) | (with_reducible refine Kd.C_drewN ?_ _) | (with_reducible refine Kd.C_drew ?_))) : P := h
theorem u11_4 {P : Prop} (h : P := by repeat (first | exact (Kd.C_below HR0_1.out HB.out) | (with_reducible refine Kd.C_alloc ?_ _) | (with_reducible refine Kd.C_drewN ?_ _) | (with_reducible refine Kd.C_drew ?_))) : P := h
theorem u11_5 {P : Prop} (h : P := by repeat (first | exact (Kd.C_below HR0_2.out HB.out) | (with_reducible refine Kd.C_alloc ?_ _) | (with_reducible refine Kd.C_drewN ?_ _) | (with_reducible refine Kd.C_drew ?_))) : P := h
theorem u11_6 {P : Prop} (h : P := by first | rfl | (simp; done) | (simp [*]; done)) : P := h
theorem u11_7 {P : Prop} (h : P := by first | (with_reducible assumption) | assumption) : P := h
theorem u11_8 {P : Prop} (h : P := by (with_reducible repeat (first | apply Kd.R_alloc | apply Kd.R_drewN | apply Kd.R_drew)); exact HO_8.out) : P := h
theorem u11_9 {P : Prop} (h : P := by repeat (first | exact (Kd.R_reads' HO_8.out).2.2 | (with_reducible refine Kd.C_alloc ?_ _) | (with_reducible refine Kd.C_drewN ?_ _) | (with_reducible refine Kd.C_drew ?_))) : P := h
theorem u11_10 {P : Prop} (h : P := by have := HJ2.out; have := HK2.out; have := HK3.out; have := HK4.out; omega) : P := h
/-! ### spec_CommitOf: function 41 -/
mutual
def spec_CommitOf.j0 : Nat → List (S60) → Bool → List Int → List Int → List Int → Option (Int)
  | 0, _, _, _, _, _ => none
  | k + 1, x1, x17, x492000, x492001, x492002 => if x17 = true then (some (-1)) else (spec_CommitOf.l0 k x1 0 0 x492000 x492001 x492002)
def spec_CommitOf.l0 : Nat → List (S60) → Int → Int → List Int → List Int → List Int → Option (Int)
  | 0, _, _, _, _, _, _ => none
  | k + 1, x1, x5, x6, x492000, x492001, x492002 => if x6 < (x1.length : Int) then (if 0 ≤ x6 then (if ((rd_T60 x1 x6).f1) < 0 then (some (-1)) else (spec_CommitOf.l0 k x1 x5 (wrap64 (x6 + 1)) x492000 x492001 x492002)) else (none)) else (spec_CommitOf.l1 k x1 x5 0 x492000 x492001 x492002)
def spec_CommitOf.l1 : Nat → List (S60) → Int → Int → List Int → List Int → List Int → Option (Int)
  | 0, _, _, _, _, _, _ => none
  | k + 1, x1, x5, x7, x492000, x492001, x492002 => if x7 < (x1.length : Int) then (spec_CommitOf.l2 k x1 x5 x7 (([] : List Int)) 0 x492000 x492001 x492002) else (some x5)
def spec_CommitOf.l2 : Nat → List (S60) → Int → Int → List Int → Int → List Int → List Int → List Int → Option (Int)
  | 0, _, _, _, _, _, _, _, _ => none
  | k + 1, x1, x5, x7, x8, x9, x492000, x492001, x492002 => if x9 < (x1.length : Int) then (if 0 ≤ x9 then (if 0 ≤ x7 then (if x7 < (x1.length : Int) then (if ((rd_T60 x1 x9).f1) ≥ ((rd_T60 x1 x7).f1) then (if x8.length < 17592186044416 then (spec_CommitOf.l2 k x1 x5 x7 (x8 ++ [(rd_T60 x1 x9).f0]) (wrap64 (x9 + 1)) x492000 x492001 x492002) else (none)) else (spec_CommitOf.l2 k x1 x5 x7 x8 (wrap64 (x9 + 1)) x492000 x492001 x492002)) else (none)) else (none)) else (none)) else (if 0 ≤ x7 then (if x7 < (x1.length : Int) then (if ((rd_T60 x1 x7).f1) > x5 then ((spec_Quorum.f k x492000 x492001 x492002 x8).bind fun t504 => (if t504 = true then (spec_CommitOf.l1 k x1 ((rd_T60 x1 x7).f1) (wrap64 (x7 + 1)) x492000 x492001 x492002) else (spec_CommitOf.l1 k x1 x5 (wrap64 (x7 + 1)) x492000 x492001 x492002))) else (spec_CommitOf.l1 k x1 x5 (wrap64 (x7 + 1)) x492000 x492001 x492002)) else (none)) else (none))
end
def spec_CommitOf.f (k : Nat) (l0_0 : List Int) (l0_1 : List Int) (l0_2 : List Int) (l1 : List (S60)) : Option (Int) := (spec_ConfOk.f k l0_0 l0_1 l0_2).bind fun t492 => (if t492 = true then (spec_CommitOf.j0 k l1 (decide ((l1.length : Int) > 100)) l0_0 l0_1 l0_2) else (spec_CommitOf.j0 k l1 true l0_0 l0_1 l0_2))
theorem spec_CommitOf.mono_l : ∀ k, (∀ y0 y1 y2 y3 y4, LeO (spec_CommitOf.j0 k y0 y1 y2 y3 y4) (spec_CommitOf.j0 (k + 1) y0 y1 y2 y3 y4)) ∧ (∀ y0 y1 y2 y3 y4 y5, LeO (spec_CommitOf.l0 k y0 y1 y2 y3 y4 y5) (spec_CommitOf.l0 (k + 1) y0 y1 y2 y3 y4 y5)) ∧ (∀ y0 y1 y2 y3 y4 y5, LeO (spec_CommitOf.l1 k y0 y1 y2 y3 y4 y5) (spec_CommitOf.l1 (k + 1) y0 y1 y2 y3 y4 y5)) ∧ (∀ y0 y1 y2 y3 y4 y5 y6 y7, LeO (spec_CommitOf.l2 k y0 y1 y2 y3 y4 y5 y6 y7) (spec_CommitOf.l2 (k + 1) y0 y1 y2 y3 y4 y5 y6 y7))
  | 0 => ⟨fun _ _ _ _ _ r h => by simp [spec_CommitOf.j0] at h, fun _ _ _ _ _ _ r h => by simp [spec_CommitOf.l0] at h, fun _ _ _ _ _ _ r h => by simp [spec_CommitOf.l1] at h, fun _ _ _ _ _ _ _ _ r h => by simp [spec_CommitOf.l2] at h⟩
  | k + 1 => by
    obtain ⟨ih0, ih1, ih2, ih3⟩ := spec_CommitOf.mono_l k
    refine ⟨?_, ?_, ?_, ?_⟩
    · intro y0 y1 y2 y3 y4
      unfold spec_CommitOf.j0
      repeat' first
      | (with_reducible exact ih0 _ _ _ _ _)
      | (with_reducible exact ih1 _ _ _ _ _ _)
      | (with_reducible exact ih2 _ _ _ _ _ _)
      | (with_reducible exact ih3 _ _ _ _ _ _ _ _)
      | (with_reducible exact spec_ConfOk.mono _ _ _ _)
      | (with_reducible exact spec_Quorum.mono _ _ _ _ _)
      | (with_reducible exact LeO.refl _)
      | (with_reducible exact LeO.none _)
      | (with_reducible refine LeO.ite ?_ ?_)
      | (with_reducible refine LeO.bind ?_ (fun _ => ?_))
      | exact ih0 _ _ _ _ _
      | exact ih1 _ _ _ _ _ _
      | exact ih2 _ _ _ _ _ _
      | exact ih3 _ _ _ _ _ _ _ _
      | exact spec_ConfOk.mono _ _ _ _
      | exact spec_Quorum.mono _ _ _ _ _
      | exact LeO.none _
      | refine LeO.ite ?_ ?_
      | refine LeO.bind ?_ (fun _ => ?_)
    · intro y0 y1 y2 y3 y4 y5
      unfold spec_CommitOf.l0
      repeat' first
      | (with_reducible exact ih0 _ _ _ _ _)
      | (with_reducible exact ih1 _ _ _ _ _ _)
      | (with_reducible exact ih2 _ _ _ _ _ _)
      | (with_reducible exact ih3 _ _ _ _ _ _ _ _)
      | (with_reducible exact spec_ConfOk.mono _ _ _ _)
      | (with_reducible exact spec_Quorum.mono _ _ _ _ _)
      | (with_reducible exact LeO.refl _)
      | (with_reducible exact LeO.none _)
      | (with_reducible refine LeO.ite ?_ ?_)
      | (with_reducible refine LeO.bind ?_ (fun _ => ?_))
      | exact ih0 _ _ _ _ _
      | exact ih1 _ _ _ _ _ _
      | exact ih2 _ _ _ _ _ _
      | exact ih3 _ _ _ _ _ _ _ _
      | exact spec_ConfOk.mono _ _ _ _
      | exact spec_Quorum.mono _ _ _ _ _
      | exact LeO.none _
      | refine LeO.ite ?_ ?_
      | refine LeO.bind ?_ (fun _ => ?_)
    · intro y0 y1 y2 y3 y4 y5
      unfold spec_CommitOf.l1
      repeat' first
      | (with_reducible exact ih0 _ _ _ _ _)
      | (with_reducible exact ih1 _ _ _ _ _ _)
      | (with_reducible exact ih2 _ _ _ _ _ _)
      | (with_reducible exact ih3 _ _ _ _ _ _ _ _)
      | (with_reducible exact spec_ConfOk.mono _ _ _ _)
      | (with_reducible exact spec_Quorum.mono _ _ _ _ _)
      | (with_reducible exact LeO.refl _)
      | (with_reducible exact LeO.none _)
      | (with_reducible refine LeO.ite ?_ ?_)
      | (with_reducible refine LeO.bind ?_ (fun _ => ?_))
      | exact ih0 _ _ _ _ _
      | exact ih1 _ _ _ _ _ _
      | exact ih2 _ _ _ _ _ _
      | exact ih3 _ _ _ _ _ _ _ _
      | exact spec_ConfOk.mono _ _ _ _
      | exact spec_Quorum.mono _ _ _ _ _
      | exact LeO.none _
      | refine LeO.ite ?_ ?_
      | refine LeO.bind ?_ (fun _ => ?_)
    · intro y0 y1 y2 y3 y4 y5 y6 y7
      unfold spec_CommitOf.l2
      repeat' first
      | (with_reducible exact ih0 _ _ _ _ _)
      | (with_reducible exact ih1 _ _ _ _ _ _)
      | (with_reducible exact ih2 _ _ _ _ _ _)
      | (with_reducible exact ih3 _ _ _ _ _ _ _ _)
      | (with_reducible exact spec_ConfOk.mono _ _ _ _)
      | (with_reducible exact spec_Quorum.mono _ _ _ _ _)
      | (with_reducible exact LeO.refl _)
      | (with_reducible exact LeO.none _)
      | (with_reducible refine LeO.ite ?_ ?_)
      | (with_reducible refine LeO.bind ?_ (fun _ => ?_))
      | exact ih0 _ _ _ _ _
      | exact ih1 _ _ _ _ _ _
      | exact ih2 _ _ _ _ _ _
      | exact ih3 _ _ _ _ _ _ _ _
      | exact spec_ConfOk.mono _ _ _ _
      | exact spec_Quorum.mono _ _ _ _ _
      | exact LeO.none _
      | refine LeO.ite ?_ ?_
      | refine LeO.bind ?_ (fun _ => ?_)
theorem spec_CommitOf.mono : ∀ a0 a1 a2 a3 k, LeO (spec_CommitOf.f k a0 a1 a2 a3) (spec_CommitOf.f (k + 1) a0 a1 a2 a3) := by
  intro a0 a1 a2 a3 k
  obtain ⟨ih0, ih1, ih2, ih3⟩ := spec_CommitOf.mono_l k
  unfold spec_CommitOf.f
  repeat' first
      | (with_reducible exact ih0 _ _ _ _ _)
      | (with_reducible exact ih1 _ _ _ _ _ _)
      | (with_reducible exact ih2 _ _ _ _ _ _)
      | (with_reducible exact ih3 _ _ _ _ _ _ _ _)
      | (with_reducible exact spec_ConfOk.mono _ _ _ _)
      | (with_reducible exact spec_Quorum.mono _ _ _ _ _)
      | (with_reducible exact LeO.refl _)
      | (with_reducible exact LeO.none _)
      | (with_reducible refine LeO.ite ?_ ?_)
      | (with_reducible refine LeO.bind ?_ (fun _ => ?_))
      | exact ih0 _ _ _ _ _
      | exact ih1 _ _ _ _ _ _
      | exact ih2 _ _ _ _ _ _
      | exact ih3 _ _ _ _ _ _ _ _
      | exact spec_ConfOk.mono _ _ _ _
      | exact spec_Quorum.mono _ _ _ _ _
      | exact LeO.none _
      | refine LeO.ite ?_ ?_
      | refine LeO.bind ?_ (fun _ => ?_)
set_option maxHeartbeats 8000000 in
set_option maxRecDepth 100000 in
theorem spec_CommitOf.calls (k : Nat) (A0_0 : Option Addr) (c0_0 : Nat) (l0_0 : List Int) (A0_1 : Option Addr) (c0_1 : Nat) (l0_1 : List Int) (A0_2 : Option Addr) (c0_2 : Nat) (l0_2 : List Int) (A1 : Option Addr) (c1 : Nat) (l1 : List (S60)) (r : Int) (w : World) (hr0_0 : Kd.C (Kd.int .i64) w A0_0 l0_0.length l0_0) (hc0_0 : l0_0.length ≤ c0_0) (hr0_1 : Kd.C (Kd.int .i64) w A0_1 l0_1.length l0_1) (hc0_1 : l0_1.length ≤ c0_1) (hr0_2 : Kd.C (Kd.int .i64) w A0_2 l0_2.length l0_2) (hc0_2 : l0_2.length ≤ c0_2) (hr1 : Kd.C k60 w A1 l1.length l1) (hc1 : l1.length ≤ c1) (h : spec_CommitOf.f k l0_0 l0_1 l0_2 l1 = some r) :
    Calls Try.prog 41 #[.agg #[.slice A0_0 l0_0.length c0_0, .slice A0_1 l0_1.length c0_1, .slice A0_2 l0_2.length c0_2], .slice A1 l1.length c1] w fun e w' => e = .returned (.int .i64 r) ∧ Below w.heap.size w w' := by
  have hu26 := Try.underlying26
  have HR0_0 := Aside0.mk hr0_0
  have HC0_0 := Aside0.mk hc0_0
  clear hr0_0 hc0_0
  have HR0_1 := Aside0.mk hr0_1
  have HC0_1 := Aside0.mk hc0_1
  clear hr0_1 hc0_1
  have HR0_2 := Aside0.mk hr0_2
  have HC0_2 := Aside0.mk hc0_2
  clear hr0_2 hc0_2
  have HR1 := Aside0.mk hr1
  have HC1 := Aside0.mk hc1
  clear hr1 hc1
  have HB := Aside0.mk (Below.refl w.heap.size w)
  have H : ((spec_ConfOk.f k l0_0 l0_1 l0_2).bind fun t492 => (if t492 = true then (spec_CommitOf.j0 k l1 (decide ((l1.length : Int) > 100)) l0_0 l0_1 l0_2) else (spec_CommitOf.j0 k l1 true l0_0 l0_1 l0_2))) = some r := h
  clear h
  have HC3 := Aside0.mk H
  clear H
  go_enter Try.func41, Try.ntmps41
  go_upto_region 1 with (first | ((with_reducible refine gate_dst (N := 2) rfl ?_); (try (refine gate_guard (by rfl) ?_; dsimp only)); refine box_event ?hg (N := 2) ?hd (cs := #[.slice A0_0 l0_0.length c0_0, .slice A0_1 l0_1.length c0_1, .slice A0_2 l0_2.length c0_2]) (t := 26) ?hr ?_; (case hd => rfl); (case hg => rfl); (case hr => first | (go_simp; done) | (go_simp; rfl)); intro gb491 hg w4 hbox hb; have n0_ := Aside0.mk (below_step u11_2 hb); have n1_ := Aside0.mk (hbox); have n2_ := Aside0.mk ((by rw [hg]; exact (below_size u11_2) : w.heap.size ≤ gb491)); have n3_ := Aside0.mk ((by rw [hg]; exact (below_size u11_2) : w.heap.size ≤ gb491)); clear HB; have HB := n0_; have BK491 := n1_; have GW491 := n2_; have GE491 := n3_; clear n0_ n1_ n2_ n3_; clear hb hbox hg))
  repeat (go_quiet (first | ((with_reducible refine gate_dst (N := 2) rfl ?_); (try (refine gate_guard (by rfl) ?_; dsimp only)); refine box_event ?hg (N := 2) ?hd (cs := #[.slice A0_0 l0_0.length c0_0, .slice A0_1 l0_1.length c0_1, .slice A0_2 l0_2.length c0_2]) (t := 26) ?hr ?_; (case hd => rfl); (case hg => rfl); (case hr => first | (go_simp; done) | (go_simp; rfl)); intro gb491 hg w4 hbox hb; have n0_ := Aside0.mk (below_step u11_2 hb); have n1_ := Aside0.mk (hbox); have n2_ := Aside0.mk ((by rw [hg]; exact (below_size u11_2) : w.heap.size ≤ gb491)); have n3_ := Aside0.mk ((by rw [hg]; exact (below_size u11_2) : w.heap.size ≤ gb491)); clear HB; have HB := n0_; have BK491 := n1_; have GW491 := n2_; have GE491 := n3_; clear n0_ n1_ n2_ n3_; clear hb hbox hg)); go_upto_region 1 with (first | ((with_reducible refine gate_dst (N := 2) rfl ?_); (try (refine gate_guard (by rfl) ?_; dsimp only)); refine box_event ?hg (N := 2) ?hd (cs := #[.slice A0_0 l0_0.length c0_0, .slice A0_1 l0_1.length c0_1, .slice A0_2 l0_2.length c0_2]) (t := 26) ?hr ?_; (case hd => rfl); (case hg => rfl); (case hr => first | (go_simp; done) | (go_simp; rfl)); intro gb491 hg w4 hbox hb; have n0_ := Aside0.mk (below_step u11_2 hb); have n1_ := Aside0.mk (hbox); have n2_ := Aside0.mk ((by rw [hg]; exact (below_size u11_2) : w.heap.size ≤ gb491)); have n3_ := Aside0.mk ((by rw [hg]; exact (below_size u11_2) : w.heap.size ≤ gb491)); clear HB; have HB := n0_; have BK491 := n1_; have GW491 := n2_; have GE491 := n3_; clear n0_ n1_ n2_ n3_; clear hb hbox hg)))
  (try simp only [Act.put, List.setIfInBounds_toArray, List.set_cons_zero, List.set_cons_succ])
  go_cut [17] (fun v17 wc => ∃ (kq : Nat) (x17_2 : Bool), v17 = .bool x17_2 ∧ Aside0 (spec_CommitOf.j0 kq l1 x17_2 l0_0 l0_1 l0_2 = some r) ∧ Aside0 (kq ≤ k) ∧ Aside0 (wc.heap[gb491]? = some (.cells #[(.slice A0_0 l0_0.length c0_0), (.slice A0_1 l0_1.length c0_1), (.slice A0_2 l0_2.length c0_2)] 26 (0, 0))) ∧ Aside0 (Below w.heap.size w wc))
  case first =>
    have H := HC3.out
    clear HC3
    replace H := Option.bind_eq_some_iff.mp H
    obtain ⟨t492, A50, H⟩ := H
    have A5 := Aside0.mk A50
    clear A50
    by_cases c6 : t492 = true
    · subst c6
      rw [if_pos rfl] at H
      have H' := Aside0.mk H
      clear H
      have hcz7_0 : w4.cell? ⟨gb491, 0, none⟩ = some (.slice A0_0 l0_0.length c0_0) := (blk_cell BK491.out 0).trans rfl
      have hcz7_1 : w4.cell? ⟨gb491, 1, none⟩ = some (.slice A0_1 l0_1.length c0_1) := (blk_cell BK491.out 1).trans rfl
      have hcz7_2 : w4.cell? ⟨gb491, 2, none⟩ = some (.slice A0_2 l0_2.length c0_2) := (blk_cell BK491.out 2).trans rfl
      have hfz7_0 := blk_frozen BK491.out 0
      have hfz7_1 := blk_frozen BK491.out 1
      have hfz7_2 := blk_frozen BK491.out 2
      go_wp2_with (first | (first | (go_at_call 53; (with_reducible refine (spec_ConfOk.calls k _ _ l0_0 _ _ l0_1 _ _ l0_2 true _ ?side1 ?side2 ?side3 ?side4 ?side5 ?side6 A5.out).mono ?_); (case side1 => exact u11_3); (case side2 => exact HC0_0.out); (case side3 => exact u11_4); (case side4 => exact HC0_1.out); (case side5 => exact u11_5); (case side6 => exact HC0_2.out); rintro e w8 ⟨rfl, hb⟩; have n0_ := Aside0.mk (blk_below (g := gb491) (o := .cells #[.slice A0_0 l0_0.length c0_0, .slice A0_1 l0_1.length c0_1, .slice A0_2 l0_2.length c0_2] 26 (0, 0)) u11_1 hb); have n1_ := Aside0.mk (below_step u11_0 hb); clear BK491; clear HB; have BK491 := n0_; have HB := n1_; clear n0_ n1_; (try clear hb); (try clear hb2); (try clear hk); (try clear hi))) | go_quiet (first | (go_at_call 53; (with_reducible refine (spec_ConfOk.calls k _ _ l0_0 _ _ l0_1 _ _ l0_2 true _ ?side1 ?side2 ?side3 ?side4 ?side5 ?side6 A5.out).mono ?_); (case side1 => exact u11_3); (case side2 => exact HC0_0.out); (case side3 => exact u11_4); (case side4 => exact HC0_1.out); (case side5 => exact u11_5); (case side6 => exact HC0_2.out); rintro e w8 ⟨rfl, hb⟩; have n0_ := Aside0.mk (blk_below (g := gb491) (o := .cells #[.slice A0_0 l0_0.length c0_0, .slice A0_1 l0_1.length c0_1, .slice A0_2 l0_2.length c0_2] 26 (0, 0)) u11_1 hb); have n1_ := Aside0.mk (below_step u11_0 hb); clear BK491; clear HB; have BK491 := n0_; have HB := n1_; clear n0_ n1_; (try clear hb); (try clear hb2); (try clear hk); (try clear hi))))
      go_meet
      case rel => exact ⟨_, (decide ((l1.length : Int) > 100)), u11_6, H', ⟨by first | omega | exact Nat.le_refl _⟩, ⟨u11_1⟩, ⟨u11_0⟩⟩
    replace c6 := Bool.eq_false_iff.mpr c6
    subst c6
    rw [if_neg (show ¬ (false = true) by decide)] at H
    have H' := Aside0.mk H
    clear H
    have hcz9_0 : w4.cell? ⟨gb491, 0, none⟩ = some (.slice A0_0 l0_0.length c0_0) := (blk_cell BK491.out 0).trans rfl
    have hcz9_1 : w4.cell? ⟨gb491, 1, none⟩ = some (.slice A0_1 l0_1.length c0_1) := (blk_cell BK491.out 1).trans rfl
    have hcz9_2 : w4.cell? ⟨gb491, 2, none⟩ = some (.slice A0_2 l0_2.length c0_2) := (blk_cell BK491.out 2).trans rfl
    have hfz9_0 := blk_frozen BK491.out 0
    have hfz9_1 := blk_frozen BK491.out 1
    have hfz9_2 := blk_frozen BK491.out 2
    go_wp2_with (first | (first | (go_at_call 53; (with_reducible refine (spec_ConfOk.calls k _ _ l0_0 _ _ l0_1 _ _ l0_2 false _ ?side1 ?side2 ?side3 ?side4 ?side5 ?side6 A5.out).mono ?_); (case side1 => exact u11_3); (case side2 => exact HC0_0.out); (case side3 => exact u11_4); (case side4 => exact HC0_1.out); (case side5 => exact u11_5); (case side6 => exact HC0_2.out); rintro e w10 ⟨rfl, hb⟩; have n0_ := Aside0.mk (blk_below (g := gb491) (o := .cells #[.slice A0_0 l0_0.length c0_0, .slice A0_1 l0_1.length c0_1, .slice A0_2 l0_2.length c0_2] 26 (0, 0)) u11_1 hb); have n1_ := Aside0.mk (below_step u11_0 hb); clear BK491; clear HB; have BK491 := n0_; have HB := n1_; clear n0_ n1_; (try clear hb); (try clear hb2); (try clear hk); (try clear hi))) | go_quiet (first | (go_at_call 53; (with_reducible refine (spec_ConfOk.calls k _ _ l0_0 _ _ l0_1 _ _ l0_2 false _ ?side1 ?side2 ?side3 ?side4 ?side5 ?side6 A5.out).mono ?_); (case side1 => exact u11_3); (case side2 => exact HC0_0.out); (case side3 => exact u11_4); (case side4 => exact HC0_1.out); (case side5 => exact u11_5); (case side6 => exact HC0_2.out); rintro e w10 ⟨rfl, hb⟩; have n0_ := Aside0.mk (blk_below (g := gb491) (o := .cells #[.slice A0_0 l0_0.length c0_0, .slice A0_1 l0_1.length c0_1, .slice A0_2 l0_2.length c0_2] 26 (0, 0)) u11_1 hb); have n1_ := Aside0.mk (below_step u11_0 hb); clear BK491; clear HB; have BK491 := n0_; have HB := n1_; clear n0_ n1_; (try clear hb); (try clear hb2); (try clear hk); (try clear hi))))
    go_meet
    case rel => exact ⟨_, (true), u11_6, H', ⟨by first | omega | exact Nat.le_refl _⟩, ⟨u11_1⟩, ⟨u11_0⟩⟩
  clear HC3
  try clear c1
  try clear p2
  try clear c4
  try clear c6
  try clear hcz7_0
  try clear hcz7_1
  try clear hcz7_2
  try clear hcz9_0
  try clear hcz9_1
  try clear hcz9_2
  try clear hfz7_0
  try clear hfz7_1
  try clear hfz7_2
  try clear hfz9_0
  try clear hfz9_1
  try clear hfz9_2
  obtain ⟨kq, x17_2, rfl, HA, HJ2, BK491, HB⟩ := hcut
  cases kq with
  | zero => exact absurd HA.out (by simp [spec_CommitOf.j0])
  | succ kj2 =>
    have H := HA.out
    clear HA
    simp only [spec_CommitOf.j0] at H
    by_cases c11 : x17_2 = true
    · subst c11
      rw [if_pos rfl] at H
      obtain rfl := Option.some.inj H
      go_wp2
      repeat (go_quiet (fail); try go_wp2)
      go_ret
      exact ⟨by first | rfl | (simp [errW_none, errW_some] <;> rfl) | (simp [*, errW_none, errW_some] <;> rfl), u11_0⟩
    replace c11 := Bool.eq_false_iff.mpr c11
    subst c11
    rw [if_neg (show ¬ (false = true) by decide)] at H
    have H' := Aside0.mk H
    clear H
    go_wp2
    repeat (go_quiet (fail); try go_wp2)
    go_loopg [6] kj2 (fun kq v6 w' => ∃ (x6_2 : Int), v6 = .int .i64 x6_2 ∧ Aside0 (spec_CommitOf.l0 kq l1 0 x6_2 l0_0 l0_1 l0_2 = some r) ∧ Aside0 (kq ≤ kj2) ∧ Aside0 (w'.heap[gb491]? = some (.cells #[(.slice A0_0 l0_0.length c0_0), (.slice A0_1 l0_1.length c0_1), (.slice A0_2 l0_2.length c0_2)] 26 (0, 0))) ∧ Aside0 (Below w.heap.size w w'))
    case atStart => exact ⟨(0), u11_6, H', ⟨Nat.le_refl _⟩, ⟨u11_1⟩, ⟨u11_0⟩⟩
    clear H'
    try clear c1
    try clear p2
    try clear c4
    try clear c6
    try clear c11
    try clear hcz7_0
    try clear hcz7_1
    try clear hcz7_2
    try clear hcz9_0
    try clear hcz9_1
    try clear hcz9_2
    try clear hfz7_0
    try clear hfz7_1
    try clear hfz7_2
    try clear hfz9_0
    try clear hfz9_1
    try clear hfz9_2
    try clear p2
    obtain ⟨x6_2, rfl, HA, HK2, BK491, HB⟩ := hrel
    cases gk with
    | zero => exact absurd HA.out (by simp [spec_CommitOf.l0])
    | succ k2 =>
      have H := HA.out
      clear HA
      simp only [spec_CommitOf.l0] at H
      by_cases c12 : x6_2 < (l1.length : Int)
      · rw [if_pos c12] at H
        have c12b0 : decide (x6_2 < (l1.length : Int)) = true := decide_eq_true c12
        clear c12
        by_cases c13 : 0 ≤ x6_2
        rotate_left
        · rw [if_neg c13] at H
          exact absurd H (by simp)
        rw [if_pos c13] at H
        have c13b0 : decide (0 ≤ x6_2) = true := decide_eq_true c13
        clear c13
        have H9 := Aside0.mk H
        clear H
        have p493 : 0 ≤ (x6_2 : Int) := of_decide_eq_true u11_7
        have q493 : x6_2 < (l1.length : Int) := of_decide_eq_true u11_7
        obtain ⟨ad493, e493, hx493_0, hx493_1⟩ := at_T60 HR1.out x6_2 p493 q493
        cases e493
        replace hx493_0 := (HB.out.cell (World.block_lt_of_cell? w _ hx493_0)).trans hx493_0
        replace hx493_1 := (HB.out.cell (World.block_lt_of_cell? w _ hx493_1)).trans hx493_1
        replace p493 := eq_true p493
        replace q493 := eq_true q493
        go_upto_if 29 with (fail)
        repeat (go_quiet (fail); go_upto_if 29 with (fail))
        have H := H9.out
        clear H9
        by_cases c14 : ((rd_T60 l1 x6_2).f1) < 0
        · rw [if_pos c14] at H
          have c14b0 : decide (((rd_T60 l1 x6_2).f1) < 0) = true := decide_eq_true c14
          clear c14
          (first | rw [c14b0] | (simp only [i64_w, i32_w]; rw [c14b0]) | skip)
          obtain rfl := Option.some.inj H
          go_wp2
          repeat (go_quiet (fail); try go_wp2)
          go_ret
          exact ⟨by first | rfl | (simp [errW_none, errW_some] <;> rfl) | (simp [*, errW_none, errW_some] <;> rfl), u11_0⟩
        rw [if_neg c14] at H
        have c14b0 : decide (((rd_T60 l1 x6_2).f1) < 0) = false := decide_eq_false c14
        clear c14
        (first | rw [c14b0] | (simp only [i64_w, i32_w]; rw [c14b0]) | skip)
        have H' := Aside0.mk H
        clear H
        go_wp2
        repeat (go_quiet (fail); try go_wp2)
        go_roundg k2
        case measure => have := HJ2.out; have := HK2.out; omega
        case rel => exact ⟨(wrap64 (x6_2 + 1)), u11_6, H', ⟨(by have := HJ2.out; have := HK2.out; omega)⟩, ⟨u11_1⟩, ⟨u11_0⟩⟩
      rw [if_neg c12] at H
      have c12b0 : decide (x6_2 < (l1.length : Int)) = false := decide_eq_false c12
      clear c12
      have H' := Aside0.mk H
      clear H
      go_wp2
      repeat (go_quiet (fail); try go_wp2)
      go_loopg [5, 7] k2 (fun kq v5 v7 w' => ∃ (x5_3 : Int) (x7_3 : Int), v5 = .int .i64 x5_3 ∧ v7 = .int .i64 x7_3 ∧ Aside0 (spec_CommitOf.l1 kq l1 x5_3 x7_3 l0_0 l0_1 l0_2 = some r) ∧ Aside0 (kq ≤ k2) ∧ Aside0 (w'.heap[gb491]? = some (.cells #[(.slice A0_0 l0_0.length c0_0), (.slice A0_1 l0_1.length c0_1), (.slice A0_2 l0_2.length c0_2)] 26 (0, 0))) ∧ Aside0 (Below w.heap.size w w'))
      case atStart => exact ⟨(0), (0), u11_6, u11_6, H', ⟨Nat.le_refl _⟩, ⟨u11_1⟩, ⟨u11_0⟩⟩
      clear H'
      try clear c1
      try clear p2
      try clear c4
      try clear p4
      try clear q4
      try clear hx4
      try clear c6
      try clear p6
      try clear c11
      try clear c12
      try clear c12b0
      try clear c13
      try clear c13b0
      try clear c14
      try clear c14b0
      try clear hcz7_0
      try clear hcz7_1
      try clear hcz7_2
      try clear hcz9_0
      try clear hcz9_1
      try clear hcz9_2
      try clear hfz7_0
      try clear hfz7_1
      try clear hfz7_2
      try clear hfz9_0
      try clear hfz9_1
      try clear hfz9_2
      try clear hx493_0
      try clear hx493_1
      try clear p2
      try clear p493
      try clear q493
      obtain ⟨x5_3, x7_3, rfl, rfl, HA, HK3, BK491, HB⟩ := hrel
      cases gk with
      | zero => exact absurd HA.out (by simp [spec_CommitOf.l1])
      | succ k3 =>
        have H := HA.out
        clear HA
        simp only [spec_CommitOf.l1] at H
        by_cases c15 : x7_3 < (l1.length : Int)
        rotate_left
        · rw [if_neg c15] at H
          have c15b0 : decide (x7_3 < (l1.length : Int)) = false := decide_eq_false c15
          clear c15
          obtain rfl := Option.some.inj H
          go_wp2
          repeat (go_quiet (fail); try go_wp2)
          go_ret
          exact ⟨by first | rfl | (simp [errW_none, errW_some] <;> rfl) | (simp [*, errW_none, errW_some] <;> rfl), u11_0⟩
        rw [if_pos c15] at H
        have c15b0 : decide (x7_3 < (l1.length : Int)) = true := decide_eq_true c15
        clear c15
        obtain ⟨y494, hy494⟩ : ∃ y_ : List Int, y_ = (([] : List Int)) := ⟨_, rfl⟩
        replace H : (spec_CommitOf.l2 k3 l1 x5_3 x7_3 y494 0 l0_0 l0_1 l0_2) = some r := by first | (rw [hy494]; with_reducible exact H) | (have H2_ := (Option.bind_some _ _).symm.trans H; rw [hy494]; with_reducible exact H2_) | (have H2_ := (Option.bind_some _ _).symm.trans H; with_reducible exact H2_) | with_reducible exact H | (rw [hy494]; exact H) | exact H
        have Ny494 := Aside0.mk hy494
        clear hy494
        have H' := Aside0.mk H
        clear H
        go_wp2_with (first | (first | ((with_reducible refine gate_dst (N := 36) rfl ?_); (try (refine gate_guard (by rfl) ?_; dsimp only)); refine Kd.R_lit (Kd.int .i64) _ 3 ?hg (N := 36) ?hd (xs := ([] : List Int)) (inner := []) (ok := fun _ => True) (okp := fun _ => True) ?hr ?hp (fun _ hk => hk) trivial (Below.refl _ _) (Nat.le_refl _) (by simp) ?_; (case hd => rfl); (case hg => rfl); (case hr => first | (go_simp; done) | (go_simp; rfl)); (case hp => exact (Reps.none _ _)); intro v495 w16 ho17 hb hg_ hnew_; clear hg_ hnew_; (first | rw [← Ny494.out] at ho17 | (simp only [Int.reduceToNat] at ho17; rw [← Ny494.out] at ho17)); have n0_ := Aside0.mk (Kd.R_lower ho17 (below_size u11_0)); have n1_ := Aside0.mk (blk_below (g := gb491) (o := .cells #[.slice A0_0 l0_0.length c0_0, .slice A0_1 l0_1.length c0_1, .slice A0_2 l0_2.length c0_2] 26 (0, 0)) u11_1 hb); have n2_ := Aside0.mk (below_step u11_0 hb); clear BK491; clear HB; have HO496 := n0_; have BK491 := n1_; have HB := n2_; clear n0_ n1_ n2_; clear hb ho17)) | go_quiet (first | ((with_reducible refine gate_dst (N := 36) rfl ?_); (try (refine gate_guard (by rfl) ?_; dsimp only)); refine Kd.R_lit (Kd.int .i64) _ 3 ?hg (N := 36) ?hd (xs := ([] : List Int)) (inner := []) (ok := fun _ => True) (okp := fun _ => True) ?hr ?hp (fun _ hk => hk) trivial (Below.refl _ _) (Nat.le_refl _) (by simp) ?_; (case hd => rfl); (case hg => rfl); (case hr => first | (go_simp; done) | (go_simp; rfl)); (case hp => exact (Reps.none _ _)); intro v495 w16 ho17 hb hg_ hnew_; clear hg_ hnew_; (first | rw [← Ny494.out] at ho17 | (simp only [Int.reduceToNat] at ho17; rw [← Ny494.out] at ho17)); have n0_ := Aside0.mk (Kd.R_lower ho17 (below_size u11_0)); have n1_ := Aside0.mk (blk_below (g := gb491) (o := .cells #[.slice A0_0 l0_0.length c0_0, .slice A0_1 l0_1.length c0_1, .slice A0_2 l0_2.length c0_2] 26 (0, 0)) u11_1 hb); have n2_ := Aside0.mk (below_step u11_0 hb); clear BK491; clear HB; have HO496 := n0_; have BK491 := n1_; have HB := n2_; clear n0_ n1_ n2_; clear hb ho17)))
        go_loopg [8, 9] k3 (fun kq v8 v9 w' => ∃ (x8_4 : List Int) (x9_4 : Int), v9 = .int .i64 x9_4 ∧ Aside0 (spec_CommitOf.l2 kq l1 x5_3 x7_3 x8_4 x9_4 l0_0 l0_1 l0_2 = some r) ∧ Aside0 (kq ≤ k3) ∧ Aside0 (Kd.R (Kd.int .i64) 3 w' w.heap.size (fun _ => True) v8 x8_4) ∧ Aside0 (w'.heap[gb491]? = some (.cells #[(.slice A0_0 l0_0.length c0_0), (.slice A0_1 l0_1.length c0_1), (.slice A0_2 l0_2.length c0_2)] 26 (0, 0))) ∧ Aside0 (Below w.heap.size w w'))
        case atStart => exact ⟨(y494), (0), u11_6, H', ⟨Nat.le_refl _⟩, ⟨(by (with_reducible repeat (first | apply Kd.R_alloc | apply Kd.R_drewN | apply Kd.R_drew)); exact HO496.out)⟩, ⟨u11_1⟩, ⟨u11_0⟩⟩
        clear H'
        try clear c1
        try clear p2
        try clear c4
        try clear p4
        try clear q4
        try clear hx4
        try clear c6
        try clear p6
        try clear c11
        try clear c12
        try clear c12b0
        try clear c13
        try clear c13b0
        try clear c14
        try clear c14b0
        try clear c15
        try clear c15b0
        try clear hcz7_0
        try clear hcz7_1
        try clear hcz7_2
        try clear hcz9_0
        try clear hcz9_1
        try clear hcz9_2
        try clear hfz7_0
        try clear hfz7_1
        try clear hfz7_2
        try clear hfz9_0
        try clear hfz9_1
        try clear hfz9_2
        try clear hx493_0
        try clear hx493_1
        try clear p2
        try clear p4
        try clear p493
        try clear p6
        try clear q4
        try clear q493
        obtain ⟨x8_4, x9_4, rfl, HA, HK4, HO_8, BK491, HB⟩ := hrel
        cases gk with
        | zero => exact absurd HA.out (by simp [spec_CommitOf.l2])
        | succ k4 =>
          have H := HA.out
          clear HA
          simp only [spec_CommitOf.l2] at H
          by_cases c18 : x9_4 < (l1.length : Int)
          · rw [if_pos c18] at H
            have c18b0 : decide (x9_4 < (l1.length : Int)) = true := decide_eq_true c18
            clear c18
            by_cases c19 : 0 ≤ x9_4
            rotate_left
            · rw [if_neg c19] at H
              exact absurd H (by simp)
            rw [if_pos c19] at H
            have c19b0 : decide (0 ≤ x9_4) = true := decide_eq_true c19
            clear c19
            by_cases c20 : 0 ≤ x7_3
            rotate_left
            · rw [if_neg c20] at H
              exact absurd H (by simp)
            rw [if_pos c20] at H
            have c20b0 : decide (0 ≤ x7_3) = true := decide_eq_true c20
            clear c20
            by_cases c21 : x7_3 < (l1.length : Int)
            rotate_left
            · rw [if_neg c21] at H
              exact absurd H (by simp)
            rw [if_pos c21] at H
            have c21b0 : decide (x7_3 < (l1.length : Int)) = true := decide_eq_true c21
            clear c21
            have H9 := Aside0.mk H
            clear H
            have p497 : 0 ≤ (x9_4 : Int) := of_decide_eq_true u11_7
            have q497 : x9_4 < (l1.length : Int) := of_decide_eq_true u11_7
            obtain ⟨ad497, e497, hx497_0, hx497_1⟩ := at_T60 HR1.out x9_4 p497 q497
            cases e497
            replace hx497_0 := (HB.out.cell (World.block_lt_of_cell? w _ hx497_0)).trans hx497_0
            replace hx497_1 := (HB.out.cell (World.block_lt_of_cell? w _ hx497_1)).trans hx497_1
            replace p497 := eq_true p497
            replace q497 := eq_true q497
            have p498 : 0 ≤ (x7_3 : Int) := of_decide_eq_true u11_7
            have q498 : x7_3 < (l1.length : Int) := of_decide_eq_true u11_7
            obtain ⟨ad498, e498, hx498_0, hx498_1⟩ := at_T60 HR1.out x7_3 p498 q498
            obtain rfl : ad497 = ad498 := (by injection e498)
            replace hx498_0 := (HB.out.cell (World.block_lt_of_cell? w _ hx498_0)).trans hx498_0
            replace hx498_1 := (HB.out.cell (World.block_lt_of_cell? w _ hx498_1)).trans hx498_1
            replace p498 := eq_true p498
            replace q498 := eq_true q498
            go_upto_if 53 with (fail)
            repeat (go_quiet (fail); go_upto_if 53 with (fail))
            have H := H9.out
            clear H9
            by_cases c22 : ((rd_T60 l1 x9_4).f1) ≥ ((rd_T60 l1 x7_3).f1)
            rotate_left
            · rw [if_neg c22] at H
              have c22b0 : decide (((rd_T60 l1 x7_3).f1) ≤ ((rd_T60 l1 x9_4).f1)) = false := decide_eq_false c22
              clear c22
              (first | rw [c22b0] | (simp only [i64_w, i32_w]; rw [c22b0]) | skip)
              have H' := Aside0.mk H
              clear H
              go_wp2
              repeat (go_quiet (fail); try go_wp2)
              go_roundg k4
              case measure => have := HJ2.out; have := HK2.out; have := HK3.out; have := HK4.out; omega
              case rel => exact ⟨(x8_4), (wrap64 (x9_4 + 1)), u11_6, H', ⟨u11_10⟩, ⟨u11_8⟩, ⟨u11_1⟩, ⟨u11_0⟩⟩
            rw [if_pos c22] at H
            have c22b0 : decide (((rd_T60 l1 x7_3).f1) ≤ ((rd_T60 l1 x9_4).f1)) = true := decide_eq_true c22
            clear c22
            (first | rw [c22b0] | (simp only [i64_w, i32_w]; rw [c22b0]) | skip)
            by_cases c23 : x8_4.length < 17592186044416
            rotate_left
            · rw [if_neg c23] at H
              exact absurd H (by simp)
            rw [if_pos c23] at H
            have LMc23 := Aside0.mk c23
            clear c23
            obtain ⟨y500, hy500⟩ : ∃ y_ : List Int, y_ = (x8_4 ++ [(rd_T60 l1 x9_4).f0]) := ⟨_, rfl⟩
            replace H : (spec_CommitOf.l2 k4 l1 x5_3 x7_3 y500 (wrap64 (x9_4 + 1)) l0_0 l0_1 l0_2) = some r := by first | (rw [hy500]; with_reducible exact H) | (have H2_ := (Option.bind_some _ _).symm.trans H; rw [hy500]; with_reducible exact H2_) | (have H2_ := (Option.bind_some _ _).symm.trans H; with_reducible exact H2_) | with_reducible exact H | (rw [hy500]; exact H) | exact H
            have Ny500 := Aside0.mk hy500
            clear hy500
            have H' := Aside0.mk H
            clear H
            have p499 : 0 ≤ (x9_4 : Int) := of_decide_eq_true u11_7
            have q499 : x9_4 < (l1.length : Int) := of_decide_eq_true u11_7
            obtain ⟨ad499, e499, hx499_0, hx499_1⟩ := at_T60 HR1.out x9_4 p499 q499
            obtain rfl : ad497 = ad499 := (by injection e499)
            replace hx499_0 := (HB.out.cell (World.block_lt_of_cell? w _ hx499_0)).trans hx499_0
            replace hx499_1 := (HB.out.cell (World.block_lt_of_cell? w _ hx499_1)).trans hx499_1
            replace p499 := eq_true p499
            replace q499 := eq_true q499
            go_wp2_with (first | (first | ((with_reducible refine gate_builtin (b := .append) (xs := #[.tmp 54, .tmp 60]) rfl ?_); (try (refine gate_guard (by rfl) ?_; dsimp only)); at_builtin; refine Kd.R_append (Kd.int .i64) (w0 := w) w.heap.size rfl (.tmp 54) (.tmp 60) 24 3 (.int .i64 0) 8 rfl Try.underlying24 info3 rfl (by decide) (by omega) u8 x8_4 ((rd_T60 l1 x9_4).f0) [.int .i64 ((rd_T60 l1 x9_4).f0)] (fun _ => True) (fun _ => False) rfl rfl ?aP (fun _ hk => hk.elim) ?aF ?aO ?aB ?aS ?aL ?_; (case aP => exact rfl); (case aB => exact u11_0); (case aF => exact (fun _ _ => trivial)); (case aO => exact u11_8); (case aS => exact (below_size u11_0)); (case aL => have := LMc23.out; omega); intro v501 w24 ho hb hg hat; rw [← Ny500.out] at ho; have n0_ := Aside0.mk (blk_grown (g := gb491) (o := .cells #[.slice A0_0 l0_0.length c0_0, .slice A0_1 l0_1.length c0_1, .slice A0_2 l0_2.length c0_2] 26 (0, 0)) u11_1 hg (Kd.R_ne HO_8.out BK491.out (by decide))); have n1_ := Aside0.mk (hb); have n2_ := Aside0.mk (ho); clear BK491; clear HB; clear HO_8; have BK491 := n0_; have HB := n1_; have HO502 := n2_; clear n0_ n1_ n2_; clear ho hb hg hat)) | go_quiet (first | ((with_reducible refine gate_builtin (b := .append) (xs := #[.tmp 54, .tmp 60]) rfl ?_); (try (refine gate_guard (by rfl) ?_; dsimp only)); at_builtin; refine Kd.R_append (Kd.int .i64) (w0 := w) w.heap.size rfl (.tmp 54) (.tmp 60) 24 3 (.int .i64 0) 8 rfl Try.underlying24 info3 rfl (by decide) (by omega) u8 x8_4 ((rd_T60 l1 x9_4).f0) [.int .i64 ((rd_T60 l1 x9_4).f0)] (fun _ => True) (fun _ => False) rfl rfl ?aP (fun _ hk => hk.elim) ?aF ?aO ?aB ?aS ?aL ?_; (case aP => exact rfl); (case aB => exact u11_0); (case aF => exact (fun _ _ => trivial)); (case aO => exact u11_8); (case aS => exact (below_size u11_0)); (case aL => have := LMc23.out; omega); intro v501 w24 ho hb hg hat; rw [← Ny500.out] at ho; have n0_ := Aside0.mk (blk_grown (g := gb491) (o := .cells #[.slice A0_0 l0_0.length c0_0, .slice A0_1 l0_1.length c0_1, .slice A0_2 l0_2.length c0_2] 26 (0, 0)) u11_1 hg (Kd.R_ne HO_8.out BK491.out (by decide))); have n1_ := Aside0.mk (hb); have n2_ := Aside0.mk (ho); clear BK491; clear HB; clear HO_8; have BK491 := n0_; have HB := n1_; have HO502 := n2_; clear n0_ n1_ n2_; clear ho hb hg hat)))
            go_roundg k4
            case measure => have := HJ2.out; have := HK2.out; have := HK3.out; have := HK4.out; omega
            case rel => exact ⟨(y500), (wrap64 (x9_4 + 1)), u11_6, H', ⟨u11_10⟩, ⟨(by (with_reducible repeat (first | apply Kd.R_alloc | apply Kd.R_drewN | apply Kd.R_drew)); exact HO502.out)⟩, ⟨u11_1⟩, ⟨u11_0⟩⟩
          rw [if_neg c18] at H
          have c18b0 : decide (x9_4 < (l1.length : Int)) = false := decide_eq_false c18
          clear c18
          by_cases c25 : 0 ≤ x7_3
          rotate_left
          · rw [if_neg c25] at H
            exact absurd H (by simp)
          rw [if_pos c25] at H
          have c25b0 : decide (0 ≤ x7_3) = true := decide_eq_true c25
          clear c25
          by_cases c26 : x7_3 < (l1.length : Int)
          rotate_left
          · rw [if_neg c26] at H
            exact absurd H (by simp)
          rw [if_pos c26] at H
          have c26b0 : decide (x7_3 < (l1.length : Int)) = true := decide_eq_true c26
          clear c26
          by_cases c27 : ((rd_T60 l1 x7_3).f1) > x5_3
          rotate_left
          · rw [if_neg c27] at H
            have c27b0 : decide (x5_3 < ((rd_T60 l1 x7_3).f1)) = false := decide_eq_false c27
            clear c27
            have H' := Aside0.mk H
            clear H
            have p503 : 0 ≤ (x7_3 : Int) := of_decide_eq_true u11_7
            have q503 : x7_3 < (l1.length : Int) := of_decide_eq_true u11_7
            obtain ⟨ad503, e503, hx503_0, hx503_1⟩ := at_T60 HR1.out x7_3 p503 q503
            cases e503
            replace hx503_0 := (HB.out.cell (World.block_lt_of_cell? w _ hx503_0)).trans hx503_0
            replace hx503_1 := (HB.out.cell (World.block_lt_of_cell? w _ hx503_1)).trans hx503_1
            replace p503 := eq_true p503
            replace q503 := eq_true q503
            go_wp2
            repeat (go_quiet (fail); try go_wp2)
            go_roundg k4
            case measure => have := HJ2.out; have := HK2.out; have := HK3.out; have := HK4.out; omega
            case rel => exact ⟨(x5_3), (wrap64 (x7_3 + 1)), u11_6, u11_6, H', ⟨u11_10⟩, ⟨u11_1⟩, ⟨u11_0⟩⟩
          rw [if_pos c27] at H
          have c27b0 : decide (x5_3 < ((rd_T60 l1 x7_3).f1)) = true := decide_eq_true c27
          clear c27
          replace H := Option.bind_eq_some_iff.mp H
          obtain ⟨t504, A280, H⟩ := H
          have A28 := Aside0.mk A280
          clear A280
          have H9 := Aside0.mk H
          clear H
          have p503 : 0 ≤ (x7_3 : Int) := of_decide_eq_true u11_7
          have q503 : x7_3 < (l1.length : Int) := of_decide_eq_true u11_7
          obtain ⟨ad503, e503, hx503_0, hx503_1⟩ := at_T60 HR1.out x7_3 p503 q503
          cases e503
          replace hx503_0 := (HB.out.cell (World.block_lt_of_cell? w _ hx503_0)).trans hx503_0
          replace hx503_1 := (HB.out.cell (World.block_lt_of_cell? w _ hx503_1)).trans hx503_1
          replace p503 := eq_true p503
          replace q503 := eq_true q503
          have hcz29_0 : wr.cell? ⟨gb491, 0, none⟩ = some (.slice A0_0 l0_0.length c0_0) := (blk_cell BK491.out 0).trans rfl
          have hcz29_1 : wr.cell? ⟨gb491, 1, none⟩ = some (.slice A0_1 l0_1.length c0_1) := (blk_cell BK491.out 1).trans rfl
          have hcz29_2 : wr.cell? ⟨gb491, 2, none⟩ = some (.slice A0_2 l0_2.length c0_2) := (blk_cell BK491.out 2).trans rfl
          have hfz29_0 := blk_frozen BK491.out 0
          have hfz29_1 := blk_frozen BK491.out 1
          have hfz29_2 := blk_frozen BK491.out 2
          obtain ⟨Ao30, co30, eo30⟩ := Kd.R_slice HO_8.out
          subst eo30
          go_upto_if 73 with (first | (go_at_call 42; (with_reducible refine (spec_Quorum.calls k4 _ _ l0_0 _ _ l0_1 _ _ l0_2 _ _ x8_4 t504 _ ?side1 ?side2 ?side3 ?side4 ?side5 ?side6 ?side7 ?side8 A28.out).mono ?_); (case side1 => exact u11_3); (case side2 => exact HC0_0.out); (case side3 => exact u11_4); (case side4 => exact HC0_1.out); (case side5 => exact u11_5); (case side6 => exact HC0_2.out); (case side7 => exact u11_9); (case side8 => exact (Kd.R_reads' HO_8.out).2.1); rintro e w31 ⟨rfl, hb⟩; have n0_ := Aside0.mk (Kd.R_below u11_8 hb); have n1_ := Aside0.mk (blk_below (g := gb491) (o := .cells #[.slice A0_0 l0_0.length c0_0, .slice A0_1 l0_1.length c0_1, .slice A0_2 l0_2.length c0_2] 26 (0, 0)) u11_1 hb); have n2_ := Aside0.mk (below_step u11_0 hb); clear HO_8; clear BK491; clear HB; have HO_8 := n0_; have BK491 := n1_; have HB := n2_; clear n0_ n1_ n2_; (try clear hb); (try clear hb2); (try clear hk); (try clear hi)))
          repeat (go_quiet (first | (go_at_call 42; (with_reducible refine (spec_Quorum.calls k4 _ _ l0_0 _ _ l0_1 _ _ l0_2 _ _ x8_4 t504 _ ?side1 ?side2 ?side3 ?side4 ?side5 ?side6 ?side7 ?side8 A28.out).mono ?_); (case side1 => exact u11_3); (case side2 => exact HC0_0.out); (case side3 => exact u11_4); (case side4 => exact HC0_1.out); (case side5 => exact u11_5); (case side6 => exact HC0_2.out); (case side7 => exact u11_9); (case side8 => exact (Kd.R_reads' HO_8.out).2.1); rintro e w31 ⟨rfl, hb⟩; have n0_ := Aside0.mk (Kd.R_below u11_8 hb); have n1_ := Aside0.mk (blk_below (g := gb491) (o := .cells #[.slice A0_0 l0_0.length c0_0, .slice A0_1 l0_1.length c0_1, .slice A0_2 l0_2.length c0_2] 26 (0, 0)) u11_1 hb); have n2_ := Aside0.mk (below_step u11_0 hb); clear HO_8; clear BK491; clear HB; have HO_8 := n0_; have BK491 := n1_; have HB := n2_; clear n0_ n1_ n2_; (try clear hb); (try clear hb2); (try clear hk); (try clear hi))); go_upto_if 73 with (first | (go_at_call 42; (with_reducible refine (spec_Quorum.calls k4 _ _ l0_0 _ _ l0_1 _ _ l0_2 _ _ x8_4 t504 _ ?side1 ?side2 ?side3 ?side4 ?side5 ?side6 ?side7 ?side8 A28.out).mono ?_); (case side1 => exact u11_3); (case side2 => exact HC0_0.out); (case side3 => exact u11_4); (case side4 => exact HC0_1.out); (case side5 => exact u11_5); (case side6 => exact HC0_2.out); (case side7 => exact u11_9); (case side8 => exact (Kd.R_reads' HO_8.out).2.1); rintro e w31 ⟨rfl, hb⟩; have n0_ := Aside0.mk (Kd.R_below u11_8 hb); have n1_ := Aside0.mk (blk_below (g := gb491) (o := .cells #[.slice A0_0 l0_0.length c0_0, .slice A0_1 l0_1.length c0_1, .slice A0_2 l0_2.length c0_2] 26 (0, 0)) u11_1 hb); have n2_ := Aside0.mk (below_step u11_0 hb); clear HO_8; clear BK491; clear HB; have HO_8 := n0_; have BK491 := n1_; have HB := n2_; clear n0_ n1_ n2_; (try clear hb); (try clear hb2); (try clear hk); (try clear hi))))
          have H := H9.out
          clear H9
          by_cases c32 : t504 = true
          rotate_left
          · replace c32 := Bool.eq_false_iff.mpr c32
            subst c32
            rw [if_neg (show ¬ (false = true) by decide)] at H
            have H' := Aside0.mk H
            clear H
            go_wp2
            repeat (go_quiet (fail); try go_wp2)
            go_roundg k4
            case measure => have := HJ2.out; have := HK2.out; have := HK3.out; have := HK4.out; omega
            case rel => exact ⟨(x5_3), (wrap64 (x7_3 + 1)), u11_6, u11_6, H', ⟨u11_10⟩, ⟨u11_1⟩, ⟨u11_0⟩⟩
          subst c32
          rw [if_pos rfl] at H
          have H' := Aside0.mk H
          clear H
          have p505 : 0 ≤ (x7_3 : Int) := of_decide_eq_true u11_7
          have q505 : x7_3 < (l1.length : Int) := of_decide_eq_true u11_7
          obtain ⟨ad505, e505, hx505_0, hx505_1⟩ := at_T60 HR1.out x7_3 p505 q505
          obtain rfl : ad503 = ad505 := (by injection e505)
          replace hx505_0 := (HB.out.cell (World.block_lt_of_cell? w _ hx505_0)).trans hx505_0
          replace hx505_1 := (HB.out.cell (World.block_lt_of_cell? w _ hx505_1)).trans hx505_1
          replace p505 := eq_true p505
          replace q505 := eq_true q505
          go_wp2
          repeat (go_quiet (fail); try go_wp2)
          go_roundg k4
          case measure => have := HJ2.out; have := HK2.out; have := HK3.out; have := HK4.out; omega
          case rel => exact ⟨((rd_T60 l1 x7_3).f1), (wrap64 (x7_3 + 1)), u11_6, u11_6, H', ⟨u11_10⟩, ⟨u11_1⟩, ⟨u11_0⟩⟩

end Go.Proofs.Ytoemdmjdpikfbaa.QFnCommits
