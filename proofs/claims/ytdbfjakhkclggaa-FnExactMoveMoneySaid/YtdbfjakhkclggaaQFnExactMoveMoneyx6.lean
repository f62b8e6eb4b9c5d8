-- Printed by the session's own program wip/prx.py.
import Derived.Test.YtdbfjakhkclggaaQFnExactMoveMoneyx0
import Derived.Test.YtdbfjakhkclggaaQFnExactMoveMoneyx5
namespace Go.Proofs.Ytdbfjakhkclggaa.QFnExactMoveMoney
open Go.RowKit Go.Proofs.YtdbfjakhkclggaaW.PrintWords Go.Proofs.YtdbfjakhkclggaaW.PrintLast Go.Proofs.YtdbfjakhkclggaaW.PrintMore
attribute [local go_sem] max2_int min2_int max_two min_two max_three min_three max_four min_four Go.Proofs.Ytdbfjakhkclggaa.Set.isSome_setCell Go.Proofs.Ytdbfjakhkclggaa.Add.add64   -- for this text's walks alone
set_option linter.unusedVariables false
set_option linter.unusedSimpArgs false

-- squeezed
theorem u6_0 {P : Prop} (h : P := by first | (with_reducible assumption) | assumption) : P := h
theorem u6_1 {P : Prop} (h : P := by (with_reducible repeat (first | refine blk_drewN ?_ _ | refine blk_drew ?_ | refine blk_alloc ?_ _)); refine blk_put (cs := #[.slice none 0 0]) ?_ 0 _ rfl; (with_reducible repeat (first | refine blk_drewN ?_ _ | refine blk_drew ?_ | refine blk_alloc ?_ _)); exact BK211.out) : P := h
theorem u6_2 {P : Prop} (h : P := by (with_reducible repeat (first | refine blk_drewN ?_ _ | refine blk_drew ?_ | refine blk_alloc ?_ _)); exact BK210.out) : P := h
theorem u6_3 {P : Prop} (h : P := by (with_reducible repeat (first | refine blk_drewN ?_ _ | refine blk_drew ?_ | refine blk_alloc ?_ _)); exact BK211.out) : P := h
theorem u6_4 {P : Prop} (h : P := by repeat (first | (with_reducible first | exact HB.out | apply below_alloc | apply pw_below_drewN | apply below_drew1 | refine below_set ?_ GE210.out | refine below_set ?_ GE211.out | refine below_set ?_ GE215.out) | exact HB.out)) : P := h
theorem u6_5 {P : Prop} (h : P := by repeat (first | (with_reducible first | exact HB.out | apply below_alloc | apply pw_below_drewN | apply below_drew1 | refine below_set ?_ GE210.out | refine below_set ?_ GE211.out) | exact HB.out)) : P := h
theorem u6_6 {P : Prop} (h : P := by (try simp only [List.map_toArray, List.map_cons, List.map_nil]); first | done | rfl | (simp only [List.length_drop, List.length_take]; rfl)) : P := h
theorem u6_7 {P : Prop} (h : P := by repeat (first | (with_reducible first | exact HK.out | apply Kept.alloc | apply Kept.drewN | apply Kept.drew) | exact HK.out)) : P := h
theorem u6_8 {P : Prop} (h : P := by (with_reducible repeat (first | refine blk_drewN ?_ _ | refine blk_drew ?_ | refine blk_alloc ?_ _)); exact BK215.out) : P := h
theorem u6_9 {P : Prop} (h : P := by (with_reducible repeat (first | apply Kd.R_alloc | apply Kd.R_drewN | apply Kd.R_drew)); exact HO_0.out) : P := h
theorem u6_10 {P : Prop} (h : P := by first | rfl | (simp; done) | (simp [*]; done)) : P := h
theorem u6_11 {P : Prop} (h : P := by repeat (first | (with_reducible first | exact HB.out | apply below_alloc | apply pw_below_drewN | apply below_drew1 | refine below_set ?_ GE210.out) | exact HB.out)) : P := h
theorem u6_12 {P : Prop} (h : P := by (with_reducible repeat (first | apply Kd.R_alloc | apply Kd.R_drewN | apply Kd.R_drew)); exact HO214.out) : P := h
theorem u6_13 {P : Prop} (h : P := by repeat (first | (with_reducible first | exact HB.out | apply below_alloc | apply pw_below_drewN | apply below_drew1) | exact HB.out)) : P := h
theorem u6_14 {P : Prop} (h : P := by (with_reducible repeat (first | apply Kd.R_alloc | apply Kd.R_drewN | apply Kd.R_drew)); exact HO_216000.out) : P := h
/-! ### impl_MoveMoney: function 25 -/
mutual
def impl_MoveMoney.j0 : Nat → Int → Int → Bool → Int → Bool → Bool → List (S53) → List (S53) → Option ((List (S53)) × Int)
  | 0, _, _, _, _, _, _, _, _ => none
  | k + 1, x3, x11, x12, x13, x14, x29, x211000, x216000 => if x29 = true then (some (x216000, 1)) else (if x12 = true then (impl_MoveMoney.j1 k x3 x11 x13 (!x14) x211000 x216000) else (impl_MoveMoney.j1 k x3 x11 x13 true x211000 x216000))
def impl_MoveMoney.j1 : Nat → Int → Int → Int → Bool → List (S53) → List (S53) → Option ((List (S53)) × Int)
  | 0, _, _, _, _, _, _ => none
  | k + 1, x3, x11, x13, x39, x211000, x216000 => if x39 = true then (some (x216000, 2)) else (if 0 ≤ x11 then (if x11 < (x211000.length : Int) then (if ((rd_T53 x211000 x11).f4) = 0 then (if 0 ≤ x13 then (if x13 < (x211000.length : Int) then (impl_MoveMoney.j2 k x3 x11 x13 (((rd_T53 x211000 x13).f4) != 0) x211000 x216000) else (none)) else (none)) else (impl_MoveMoney.j2 k x3 x11 x13 true x211000 x216000)) else (none)) else (none))
def impl_MoveMoney.j2 : Nat → Int → Int → Int → Bool → List (S53) → List (S53) → Option ((List (S53)) × Int)
  | 0, _, _, _, _, _, _ => none
  | k + 1, x3, x11, x13, x47, x211000, x216000 => if x47 = true then (some (x216000, 6)) else (if 0 ≤ x11 then (if x11 < (x211000.length : Int) then (if ((rd_T53 x211000 x11).f1) < x3 then (some (x216000, 4)) else (if 0 ≤ x13 then (if x13 < (x211000.length : Int) then (if (IntKind.u64.wrap (((rd_T53 x211000 x13).f1) + x3)) < x3 then (some (x216000, 5)) else (if x11 < (x216000.length : Int) then ((some (x216000.set (x11 : Int).toNat (⟨(rd_T53 x216000 x11).f0, IntKind.u64.wrap (((rd_T53 x216000 x11).f1) - x3), (rd_T53 x216000 x11).f2, (rd_T53 x216000 x11).f3, (rd_T53 x216000 x11).f4⟩ : S53) : List (S53))).bind fun y226 => (if x13 < (x216000.length : Int) then (some ((y226.set (x13 : Int).toNat (⟨(rd_T53 y226 x13).f0, IntKind.u64.wrap (((rd_T53 y226 x13).f1) + x3), (rd_T53 y226 x13).f2, (rd_T53 y226 x13).f3, (rd_T53 y226 x13).f4⟩ : S53)), 0)) else (none))) else (none))) else (none)) else (none))) else (none)) else (none))
end
def impl_MoveMoney.f (k : Nat) (l0_0 : List (S53)) (a1 : Int) (a2 : Int) (a3 : Int) : Option ((List (S53)) × Int) := (impl_copyBook.f l0_0).bind fun t212 => ((impl_accountOf.f k l0_0 a1).bind fun bt216 => ((impl_accountOf.f k l0_0 a2).bind fun bt218 => ((impl_isBook.f k l0_0).bind fun t220 => (if t220 = true then (impl_MoveMoney.j0 k a3 bt216.1 bt216.2 bt218.1 bt218.2 (a1 == a2) l0_0 t212) else (impl_MoveMoney.j0 k a3 bt216.1 bt216.2 bt218.1 bt218.2 true l0_0 t212)))))
theorem impl_MoveMoney.mono_l : ∀ k, (∀ y0 y1 y2 y3 y4 y5 y6 y7, LeO (impl_MoveMoney.j0 k y0 y1 y2 y3 y4 y5 y6 y7) (impl_MoveMoney.j0 (k + 1) y0 y1 y2 y3 y4 y5 y6 y7)) ∧ (∀ y0 y1 y2 y3 y4 y5, LeO (impl_MoveMoney.j1 k y0 y1 y2 y3 y4 y5) (impl_MoveMoney.j1 (k + 1) y0 y1 y2 y3 y4 y5)) ∧ (∀ y0 y1 y2 y3 y4 y5, LeO (impl_MoveMoney.j2 k y0 y1 y2 y3 y4 y5) (impl_MoveMoney.j2 (k + 1) y0 y1 y2 y3 y4 y5))
  | 0 => ⟨fun _ _ _ _ _ _ _ _ r h => by simp [impl_MoveMoney.j0] at h, fun _ _ _ _ _ _ r h => by simp [impl_MoveMoney.j1] at h, fun _ _ _ _ _ _ r h => by simp [impl_MoveMoney.j2] at h⟩
  | k + 1 => by
    obtain ⟨ih0, ih1, ih2⟩ := impl_MoveMoney.mono_l k
    refine ⟨?_, ?_, ?_⟩
    · intro y0 y1 y2 y3 y4 y5 y6 y7
      unfold impl_MoveMoney.j0
      repeat' first
      | (with_reducible exact ih0 _ _ _ _ _ _ _ _)
      | (with_reducible exact ih1 _ _ _ _ _ _)
      | (with_reducible exact ih2 _ _ _ _ _ _)
      | (with_reducible exact impl_accountOf.mono _ _ _)
      | (with_reducible exact impl_isBook.mono _ _)
      | (with_reducible exact LeO.refl _)
      | (with_reducible exact LeO.none _)
      | (with_reducible refine LeO.ite ?_ ?_)
      | (with_reducible refine LeO.bind ?_ (fun _ => ?_))
      | exact ih0 _ _ _ _ _ _ _ _
      | exact ih1 _ _ _ _ _ _
      | exact ih2 _ _ _ _ _ _
      | exact impl_accountOf.mono _ _ _
      | exact impl_isBook.mono _ _
      | exact LeO.none _
      | refine LeO.ite ?_ ?_
      | refine LeO.bind ?_ (fun _ => ?_)
    · intro y0 y1 y2 y3 y4 y5
      unfold impl_MoveMoney.j1
      repeat' first
      | (with_reducible exact ih0 _ _ _ _ _ _ _ _)
      | (with_reducible exact ih1 _ _ _ _ _ _)
      | (with_reducible exact ih2 _ _ _ _ _ _)
      | (with_reducible exact impl_accountOf.mono _ _ _)
      | (with_reducible exact impl_isBook.mono _ _)
      | (with_reducible exact LeO.refl _)
      | (with_reducible exact LeO.none _)
      | (with_reducible refine LeO.ite ?_ ?_)
      | (with_reducible refine LeO.bind ?_ (fun _ => ?_))
      | exact ih0 _ _ _ _ _ _ _ _
      | exact ih1 _ _ _ _ _ _
      | exact ih2 _ _ _ _ _ _
      | exact impl_accountOf.mono _ _ _
      | exact impl_isBook.mono _ _
      | exact LeO.none _
      | refine LeO.ite ?_ ?_
      | refine LeO.bind ?_ (fun _ => ?_)
    · intro y0 y1 y2 y3 y4 y5
      unfold impl_MoveMoney.j2
      repeat' first
      | (with_reducible exact ih0 _ _ _ _ _ _ _ _)
      | (with_reducible exact ih1 _ _ _ _ _ _)
      | (with_reducible exact ih2 _ _ _ _ _ _)
      | (with_reducible exact impl_accountOf.mono _ _ _)
      | (with_reducible exact impl_isBook.mono _ _)
      | (with_reducible exact LeO.refl _)
      | (with_reducible exact LeO.none _)
      | (with_reducible refine LeO.ite ?_ ?_)
      | (with_reducible refine LeO.bind ?_ (fun _ => ?_))
      | exact ih0 _ _ _ _ _ _ _ _
      | exact ih1 _ _ _ _ _ _
      | exact ih2 _ _ _ _ _ _
      | exact impl_accountOf.mono _ _ _
      | exact impl_isBook.mono _ _
      | exact LeO.none _
      | refine LeO.ite ?_ ?_
      | refine LeO.bind ?_ (fun _ => ?_)
theorem impl_MoveMoney.mono : ∀ a0 a1 a2 a3 k, LeO (impl_MoveMoney.f k a0 a1 a2 a3) (impl_MoveMoney.f (k + 1) a0 a1 a2 a3) := by
  intro a0 a1 a2 a3 k
  obtain ⟨ih0, ih1, ih2⟩ := impl_MoveMoney.mono_l k
  unfold impl_MoveMoney.f
  repeat' first
      | (with_reducible exact ih0 _ _ _ _ _ _ _ _)
      | (with_reducible exact ih1 _ _ _ _ _ _)
      | (with_reducible exact ih2 _ _ _ _ _ _)
      | (with_reducible exact impl_accountOf.mono _ _ _)
      | (with_reducible exact impl_isBook.mono _ _)
      | (with_reducible exact LeO.refl _)
      | (with_reducible exact LeO.none _)
      | (with_reducible refine LeO.ite ?_ ?_)
      | (with_reducible refine LeO.bind ?_ (fun _ => ?_))
      | exact ih0 _ _ _ _ _ _ _ _
      | exact ih1 _ _ _ _ _ _
      | exact ih2 _ _ _ _ _ _
      | exact impl_accountOf.mono _ _ _
      | exact impl_isBook.mono _ _
      | exact LeO.none _
      | refine LeO.ite ?_ ?_
      | refine LeO.bind ?_ (fun _ => ?_)
set_option maxHeartbeats 8000000 in
set_option maxRecDepth 100000 in
theorem impl_MoveMoney.calls (k : Nat) (A0_0 : Option Addr) (c0_0 : Nat) (l0_0 : List (S53)) (a1 : Int) (a2 : Int) (a3 : Int) (r1 : List (S53)) (r2 : Int) (w : World) (hr0_0 : Kd.C k53 w A0_0 l0_0.length l0_0) (hc0_0 : l0_0.length ≤ c0_0) (h : impl_MoveMoney.f k l0_0 a1 a2 a3 = some (r1, r2)) :
    Calls Try.prog 25 #[.agg #[.slice A0_0 l0_0.length c0_0], .int .u64 a1, .int .u64 a2, .int .u64 a3] w fun e w' => ∃ v0_ : Value, e = .returned (.tuple #[.agg #[v0_], .int .i64 r2]) ∧ Kd.R k53 53 w' w.heap.size (fun _ => True) v0_ r1 ∧ Below w.heap.size w w' := by
  have hu29 := Try.underlying29
  have HR0_0 := Aside0.mk hr0_0
  have HC0_0 := Aside0.mk hc0_0
  clear hr0_0 hc0_0
  have HB := Aside0.mk (Below.refl w.heap.size w)
  have H : ((impl_copyBook.f l0_0).bind fun t212 => ((impl_accountOf.f k l0_0 a1).bind fun bt216 => ((impl_accountOf.f k l0_0 a2).bind fun bt218 => ((impl_isBook.f k l0_0).bind fun t220 => (if t220 = true then (impl_MoveMoney.j0 k a3 bt216.1 bt216.2 bt218.1 bt218.2 (a1 == a2) l0_0 t212) else (impl_MoveMoney.j0 k a3 bt216.1 bt216.2 bt218.1 bt218.2 true l0_0 t212)))))) = some (r1, r2) := h
  clear h
  replace H := Option.bind_eq_some_iff.mp H
  obtain ⟨t212, A50, H⟩ := H
  replace H : ((impl_accountOf.f k l0_0 a1).bind fun bt216 => ((impl_accountOf.f k l0_0 a2).bind fun bt218 => ((impl_isBook.f k l0_0).bind fun t220 => (if t220 = true then (impl_MoveMoney.j0 k a3 bt216.1 bt216.2 bt218.1 bt218.2 (a1 == a2) l0_0 t212) else (impl_MoveMoney.j0 k a3 bt216.1 bt216.2 bt218.1 bt218.2 true l0_0 t212))))) = some (r1, r2) := H
  have A5 := Aside0.mk A50
  clear A50
  replace H := Option.bind_eq_some_iff.mp H
  obtain ⟨⟨t216, t217⟩, A60, H⟩ := H
  replace H : ((impl_accountOf.f k l0_0 a2).bind fun bt218 => ((impl_isBook.f k l0_0).bind fun t220 => (if t220 = true then (impl_MoveMoney.j0 k a3 t216 t217 bt218.1 bt218.2 (a1 == a2) l0_0 t212) else (impl_MoveMoney.j0 k a3 t216 t217 bt218.1 bt218.2 true l0_0 t212)))) = some (r1, r2) := H
  have A6 := Aside0.mk A60
  clear A60
  replace H := Option.bind_eq_some_iff.mp H
  obtain ⟨⟨t218, t219⟩, A70, H⟩ := H
  replace H : ((impl_isBook.f k l0_0).bind fun t220 => (if t220 = true then (impl_MoveMoney.j0 k a3 t216 t217 t218 t219 (a1 == a2) l0_0 t212) else (impl_MoveMoney.j0 k a3 t216 t217 t218 t219 true l0_0 t212))) = some (r1, r2) := H
  have A7 := Aside0.mk A70
  clear A70
  have HC8 := Aside0.mk H
  clear H
  go_enter Try.func25, Try.ntmps25
  go_upto_region 4 with (first | ((with_reducible refine gate_dst (N := 4) rfl ?_); refine box_event ?hg (N := 4) ?hd (cs := #[.slice A0_0 l0_0.length c0_0]) (t := 29) ?hr ?_; (case hd => rfl); (case hg => rfl); (case hr => first | (go_simp; done) | (go_simp; rfl)); intro gb210 hg w9 hbox hb; have n0_ := Aside0.mk (below_step u6_13 hb); have n1_ := Aside0.mk (hbox); have n2_ := Aside0.mk ((by rw [hg]; exact (below_size u6_13) : w.heap.size ≤ gb210)); have n3_ := Aside0.mk ((by rw [hg]; exact (below_size u6_13) : w.heap.size ≤ gb210)); clear HB; have HB := n0_; have BK210 := n1_; have GW210 := n2_; have GE210 := n3_; clear n0_ n1_ n2_ n3_; clear hb hbox hg) | ((with_reducible refine gate_dst (N := 8) rfl ?_); refine box_event ?hg (N := 8) ?hd (cs := #[.slice none 0 0]) (t := 29) ?hr ?_; (case hd => rfl); (case hg => rfl); (case hr => first | (go_simp; done) | (go_simp; rfl)); intro gb211 hg w10 hbox hb; have n0_ := Aside0.mk (blk_below (g := gb210) (o := .cells #[.slice A0_0 l0_0.length c0_0] 29 (0, 0)) u6_2 hb); have n1_ := Aside0.mk (below_step u6_11 hb); have n2_ := Aside0.mk (hbox); have n3_ := Aside0.mk ((by rw [hg]; exact (below_size u6_11) : w.heap.size ≤ gb211)); have n4_ := Aside0.mk ((by rw [hg]; exact (below_size u6_11) : w.heap.size ≤ gb211)); have n5_ := Aside0.mk ((by rw [hg]; exact Nat.ne_of_lt (blk_lt (g := gb210) (o := .cells #[.slice A0_0 l0_0.length c0_0] 29 (0, 0)) u6_2) : gb210 ≠ gb211)); have n6_ := Aside0.mk ((by rw [hg]; exact Nat.ne_of_gt (blk_lt (g := gb210) (o := .cells #[.slice A0_0 l0_0.length c0_0] 29 (0, 0)) u6_2) : gb211 ≠ gb210)); clear BK210; clear HB; have BK210 := n0_; have HB := n1_; have BK211 := n2_; have GW211 := n3_; have GE211 := n4_; have NB210_211 := n5_; have NB211_210 := n6_; clear n0_ n1_ n2_ n3_ n4_ n5_ n6_; clear hb hbox hg; have hnb11 := NB210_211.out; have hnc11 := NB211_210.out; have hcz12_0 : w10.cell? ⟨gb210, 0, none⟩ = some (.slice A0_0 l0_0.length c0_0) := (blk_cell BK210.out 0).trans rfl; have hfz12_0 := blk_frozen BK210.out 0) | ((with_reducible refine gate_callee (f := 56) rfl ?_); refine goesL_ (some 16) rfl rfl Try.func56 (by kernel_rfl) rfl #[.agg #[.slice A0_0 l0_0.length c0_0]] rfl u6_6 ?_; (with_reducible refine (impl_copyBook.calls _ _ l0_0 t212 _ ?side1 ?side2 A5.out).mono ?_); (case side1 => repeat (first | exact (Kd.C_below HR0_0.out HB.out) | (with_reducible refine Kd.C_alloc ?_ _) | (with_reducible refine Kd.C_drewN ?_ _) | (with_reducible refine Kd.C_drew ?_))); (case side2 => exact HC0_0.out); rintro e w13 ⟨v213, rfl, ho0, hb⟩; refine ⟨_, rfl, ?_⟩; have n0_ := Aside0.mk (Kd.R_lower ho0 (below_size u6_5)); have n1_ := Aside0.mk (blk_below (g := gb210) (o := .cells #[.slice A0_0 l0_0.length c0_0] 29 (0, 0)) u6_2 hb); have n2_ := Aside0.mk (blk_below (g := gb211) (o := .cells #[.slice none 0 0] 29 (0, 0)) u6_3 hb); have n3_ := Aside0.mk (below_step u6_5 hb); clear BK210; clear BK211; clear HB; have HO214 := n0_; have BK210 := n1_; have BK211 := n2_; have HB := n3_; clear n0_ n1_ n2_ n3_; (try clear hb); (try clear hb2); (try clear hk); (try clear hi); (try clear ho0)) | ((with_reducible refine gate_dst (N := 10) rfl ?_); refine box_event ?hg (N := 10) ?hd (cs := #[.slice none 0 0]) (t := 29) ?hr ?_; (case hd => rfl); (case hg => rfl); (case hr => first | (go_simp; done) | (go_simp; rfl)); intro gb215 hg w14 hbox hb; have n0_ := Aside0.mk (Kd.R_below u6_12 hb); have n1_ := Aside0.mk (blk_below (g := gb210) (o := .cells #[.slice A0_0 l0_0.length c0_0] 29 (0, 0)) u6_2 hb); have n2_ := Aside0.mk (blk_below (g := gb211) (o := .cells #[.slice none 0 0] 29 (0, 0)) u6_3 hb); have n3_ := Aside0.mk (below_step u6_5 hb); have n4_ := Aside0.mk (hbox); have n5_ := Aside0.mk ((by rw [hg]; exact (below_size u6_5) : w.heap.size ≤ gb215)); have n6_ := Aside0.mk ((by rw [hg]; exact (below_size u6_5) : w.heap.size ≤ gb215)); have n7_ := Aside0.mk ((by rw [hg]; exact Nat.ne_of_lt (blk_lt (g := gb210) (o := .cells #[.slice A0_0 l0_0.length c0_0] 29 (0, 0)) u6_2) : gb210 ≠ gb215)); have n8_ := Aside0.mk ((by rw [hg]; exact Nat.ne_of_gt (blk_lt (g := gb210) (o := .cells #[.slice A0_0 l0_0.length c0_0] 29 (0, 0)) u6_2) : gb215 ≠ gb210)); have n9_ := Aside0.mk ((by rw [hg]; exact Nat.ne_of_lt (blk_lt (g := gb211) (o := .cells #[.slice none 0 0] 29 (0, 0)) u6_3) : gb211 ≠ gb215)); have n10_ := Aside0.mk ((by rw [hg]; exact Nat.ne_of_gt (blk_lt (g := gb211) (o := .cells #[.slice none 0 0] 29 (0, 0)) u6_3) : gb215 ≠ gb211)); clear HO214; clear BK210; clear BK211; clear HB; have HO214 := n0_; have BK210 := n1_; have BK211 := n2_; have HB := n3_; have BK215 := n4_; have GW215 := n5_; have GE215 := n6_; have NB210_215 := n7_; have NB215_210 := n8_; have NB211_215 := n9_; have NB215_211 := n10_; clear n0_ n1_ n2_ n3_ n4_ n5_ n6_ n7_ n8_ n9_ n10_; clear hb hbox hg; obtain ⟨Ao15, co15, eo15⟩ := Kd.R_slice HO214.out; subst eo15; have hnb16 := NB215_210.out; have hnc16 := NB210_215.out; have hnb17 := NB215_211.out; have hnc17 := NB211_215.out; have hcz18_0 : w14.cell? ⟨gb215, 0, none⟩ = some (.slice none 0 0) := (blk_cell BK215.out 0).trans rfl; have hfz18_0 := blk_frozen BK215.out 0; have hcz19_0 : w14.cell? ⟨gb210, 0, none⟩ = some (.slice A0_0 l0_0.length c0_0) := (blk_cell BK210.out 0).trans rfl; have hfz19_0 := blk_frozen BK210.out 0) | ((with_reducible refine gate_callee (f := 57) rfl ?_); refine goesL_ (some 20) rfl rfl Try.func57 (by kernel_rfl) rfl #[.agg #[.slice A0_0 l0_0.length c0_0], .int .u64 a1] rfl u6_6 ?_; (with_reducible refine (impl_accountOf.calls k _ _ l0_0 a1 t216 t217 _ ?side1 ?side2 A6.out).mono ?_); (case side1 => exact Kd.C_below HR0_0.out u6_4); (case side2 => exact HC0_0.out); rintro e w20 ⟨rfl, hb⟩; refine ⟨_, rfl, ?_⟩; have n0_ := Aside0.mk (Kd.R_below (by (with_reducible repeat (first | apply Kd.R_alloc | apply Kd.R_drewN | apply Kd.R_drew)); exact (Kd.R_mono (Kd.R_far (p := ⟨gb215, 0, none⟩) (Kd.R_types HO214.out BK215.out (by decide)) (fun _ hk => hk.2) (.slice Ao15 t212.length co15)) (fun _ h_ => h_.1))) hb); have n1_ := Aside0.mk (blk_below (g := gb210) (o := .cells #[.slice A0_0 l0_0.length c0_0] 29 (0, 0)) (by (with_reducible repeat (first | refine blk_drewN ?_ _ | refine blk_drew ?_ | refine blk_alloc ?_ _)); refine blk_far ?_ NB210_215.out _; (with_reducible repeat (first | refine blk_drewN ?_ _ | refine blk_drew ?_ | refine blk_alloc ?_ _)); exact BK210.out) hb); have n2_ := Aside0.mk (blk_below (g := gb211) (o := .cells #[.slice none 0 0] 29 (0, 0)) (by (with_reducible repeat (first | refine blk_drewN ?_ _ | refine blk_drew ?_ | refine blk_alloc ?_ _)); refine blk_far ?_ NB211_215.out _; (with_reducible repeat (first | refine blk_drewN ?_ _ | refine blk_drew ?_ | refine blk_alloc ?_ _)); exact BK211.out) hb); have n3_ := Aside0.mk (blk_below (g := gb215) (o := .cells #[.slice Ao15 t212.length co15] 29 (0, 0)) (by (with_reducible repeat (first | refine blk_drewN ?_ _ | refine blk_drew ?_ | refine blk_alloc ?_ _)); refine blk_put (cs := #[.slice none 0 0]) ?_ 0 _ rfl; (with_reducible repeat (first | refine blk_drewN ?_ _ | refine blk_drew ?_ | refine blk_alloc ?_ _)); exact BK215.out) hb); have n4_ := Aside0.mk (below_step u6_4 hb); clear HO214; clear BK210; clear BK211; clear BK215; clear HB; have HO214 := n0_; have BK210 := n1_; have BK211 := n2_; have BK215 := n3_; have HB := n4_; clear n0_ n1_ n2_ n3_ n4_; (try clear hb); (try clear hb2); (try clear hk); (try clear hi); have hcz21_0 : w20.cell? ⟨gb210, 0, none⟩ = some (.slice A0_0 l0_0.length c0_0) := (blk_cell BK210.out 0).trans rfl; have hfz21_0 := blk_frozen BK210.out 0) | ((with_reducible refine gate_callee (f := 57) rfl ?_); refine goesL_ (some 26) rfl rfl Try.func57 (by kernel_rfl) rfl #[.agg #[.slice A0_0 l0_0.length c0_0], .int .u64 a2] rfl u6_6 ?_; (with_reducible refine (impl_accountOf.calls k _ _ l0_0 a2 t218 t219 _ ?side1 ?side2 A7.out).mono ?_); (case side1 => repeat (first | exact (Kd.C_below HR0_0.out HB.out) | (with_reducible refine Kd.C_alloc ?_ _) | (with_reducible refine Kd.C_drewN ?_ _) | (with_reducible refine Kd.C_drew ?_))); (case side2 => exact HC0_0.out); rintro e w22 ⟨rfl, hb⟩; refine ⟨_, rfl, ?_⟩; have n0_ := Aside0.mk (Kd.R_below u6_12 hb); have n1_ := Aside0.mk (blk_below (g := gb210) (o := .cells #[.slice A0_0 l0_0.length c0_0] 29 (0, 0)) u6_2 hb); have n2_ := Aside0.mk (blk_below (g := gb211) (o := .cells #[.slice none 0 0] 29 (0, 0)) u6_3 hb); have n3_ := Aside0.mk (blk_below (g := gb215) (o := .cells #[.slice Ao15 t212.length co15] 29 (0, 0)) u6_8 hb); have n4_ := Aside0.mk (below_step u6_4 hb); clear HO214; clear BK210; clear BK211; clear BK215; clear HB; have HO214 := n0_; have BK210 := n1_; have BK211 := n2_; have BK215 := n3_; have HB := n4_; clear n0_ n1_ n2_ n3_ n4_; (try clear hb); (try clear hb2); (try clear hk); (try clear hi)))
  (try simp only [Act.put, List.setIfInBounds_toArray, List.set_cons_zero, List.set_cons_succ])
  go_cut [29] (fun v29 wc => ∃ (kq : Nat) (x29_7 : Bool), v29 = .bool x29_7 ∧ Aside0 (impl_MoveMoney.j0 kq a3 t216 t217 t218 t219 x29_7 l0_0 t212 = some (r1, r2)) ∧ Aside0 (kq ≤ k) ∧ Aside0 (Kd.R k53 53 wc w.heap.size (fun _ => True) (.slice Ao15 t212.length co15) t212) ∧ Aside0 (wc.heap[gb210]? = some (.cells #[(.slice A0_0 l0_0.length c0_0)] 29 (0, 0))) ∧ Aside0 (wc.heap[gb211]? = some (.cells #[(.slice none 0 0)] 29 (0, 0))) ∧ Aside0 (wc.heap[gb215]? = some (.cells #[(.slice Ao15 t212.length co15)] 29 (0, 0))) ∧ Aside0 (Below w.heap.size w wc))
  case first =>
    have H := HC8.out
    clear HC8
    replace H := Option.bind_eq_some_iff.mp H
    obtain ⟨t220, A230, H⟩ := H
    replace H : (if t220 = true then (impl_MoveMoney.j0 k a3 t216 t217 t218 t219 (a1 == a2) l0_0 t212) else (impl_MoveMoney.j0 k a3 t216 t217 t218 t219 true l0_0 t212)) = some (r1, r2) := H
    have A23 := Aside0.mk A230
    clear A230
    by_cases c24 : t220 = true
    · subst c24
      have H1 : (impl_MoveMoney.j0 k a3 t216 t217 t218 t219 (a1 == a2) l0_0 t212) = some (r1, r2) := by rw [if_pos rfl] at H; exact H
      clear H
      have H := H1
      clear H1
      have H' := Aside0.mk H
      clear H
      have hnb25 := NB210_211.out
      have hnc25 := NB211_210.out
      have hnb26 := NB210_215.out
      have hnc26 := NB215_210.out
      have hcz27_0 : w22.cell? ⟨gb210, 0, none⟩ = some (.slice A0_0 l0_0.length c0_0) := (blk_cell BK210.out 0).trans rfl
      have hfz27_0 := blk_frozen BK210.out 0
      go_wp2_with (first | ((with_reducible refine gate_callee (f := 50) rfl ?_); refine goesL_ (some 31) rfl rfl Try.func50 (by kernel_rfl) rfl #[.agg #[.slice A0_0 l0_0.length c0_0]] rfl u6_6 ?_; (with_reducible refine (impl_isBook.calls k _ _ l0_0 true _ ?side1 ?side2 A23.out).mono ?_); (case side1 => repeat (first | exact (Kd.C_below HR0_0.out HB.out) | (with_reducible refine Kd.C_alloc ?_ _) | (with_reducible refine Kd.C_drewN ?_ _) | (with_reducible refine Kd.C_drew ?_))); (case side2 => exact HC0_0.out); rintro e w28 ⟨rfl, hb⟩; refine ⟨_, rfl, ?_⟩; have n0_ := Aside0.mk (Kd.R_below u6_12 hb); have n1_ := Aside0.mk (blk_below (g := gb210) (o := .cells #[.slice A0_0 l0_0.length c0_0] 29 (0, 0)) u6_2 hb); have n2_ := Aside0.mk (blk_below (g := gb211) (o := .cells #[.slice none 0 0] 29 (0, 0)) u6_3 hb); have n3_ := Aside0.mk (blk_below (g := gb215) (o := .cells #[.slice Ao15 t212.length co15] 29 (0, 0)) u6_8 hb); have n4_ := Aside0.mk (below_step u6_4 hb); clear HO214; clear BK210; clear BK211; clear BK215; clear HB; have HO214 := n0_; have BK210 := n1_; have BK211 := n2_; have BK215 := n3_; have HB := n4_; clear n0_ n1_ n2_ n3_ n4_; (try clear hb); (try clear hb2); (try clear hk); (try clear hi)))
      go_meet
      case rel => exact ⟨_, ((a1 == a2)), u6_10, H', ⟨by first | omega | exact Nat.le_refl _⟩, ⟨by (with_reducible repeat (first | apply Kd.R_alloc | apply Kd.R_drewN | apply Kd.R_drew)); exact HO214.out⟩, ⟨by (with_reducible repeat (first | refine blk_drewN ?_ _ | refine blk_drew ?_ | refine blk_alloc ?_ _)); exact BK210.out⟩, ⟨by (with_reducible repeat (first | refine blk_drewN ?_ _ | refine blk_drew ?_ | refine blk_alloc ?_ _)); exact BK211.out⟩, ⟨by (with_reducible repeat (first | refine blk_drewN ?_ _ | refine blk_drew ?_ | refine blk_alloc ?_ _)); exact BK215.out⟩, ⟨by repeat (first | (with_reducible first | exact HB.out | apply below_alloc | apply pw_below_drewN | apply below_drew1 | refine below_set ?_ GE210.out | refine below_set ?_ GE211.out | refine below_set ?_ GE215.out) | exact HB.out)⟩⟩
    · replace c24 := Bool.eq_false_iff.mpr c24
      subst c24
      have H1 : (impl_MoveMoney.j0 k a3 t216 t217 t218 t219 true l0_0 t212) = some (r1, r2) := by rw [if_neg (show ¬ (false = true) by decide)] at H; exact H
      clear H
      have H := H1
      clear H1
      have H' := Aside0.mk H
      clear H
      have hnb29 := NB210_211.out
      have hnc29 := NB211_210.out
      have hnb30 := NB210_215.out
      have hnc30 := NB215_210.out
      have hcz31_0 : w22.cell? ⟨gb210, 0, none⟩ = some (.slice A0_0 l0_0.length c0_0) := (blk_cell BK210.out 0).trans rfl
      have hfz31_0 := blk_frozen BK210.out 0
      go_wp2_with (first | ((with_reducible refine gate_callee (f := 50) rfl ?_); refine goesL_ (some 31) rfl rfl Try.func50 (by kernel_rfl) rfl #[.agg #[.slice A0_0 l0_0.length c0_0]] rfl u6_6 ?_; (with_reducible refine (impl_isBook.calls k _ _ l0_0 false _ ?side1 ?side2 A23.out).mono ?_); (case side1 => repeat (first | exact (Kd.C_below HR0_0.out HB.out) | (with_reducible refine Kd.C_alloc ?_ _) | (with_reducible refine Kd.C_drewN ?_ _) | (with_reducible refine Kd.C_drew ?_))); (case side2 => exact HC0_0.out); rintro e w32 ⟨rfl, hb⟩; refine ⟨_, rfl, ?_⟩; have n0_ := Aside0.mk (Kd.R_below u6_12 hb); have n1_ := Aside0.mk (blk_below (g := gb210) (o := .cells #[.slice A0_0 l0_0.length c0_0] 29 (0, 0)) u6_2 hb); have n2_ := Aside0.mk (blk_below (g := gb211) (o := .cells #[.slice none 0 0] 29 (0, 0)) u6_3 hb); have n3_ := Aside0.mk (blk_below (g := gb215) (o := .cells #[.slice Ao15 t212.length co15] 29 (0, 0)) u6_8 hb); have n4_ := Aside0.mk (below_step u6_4 hb); clear HO214; clear BK210; clear BK211; clear BK215; clear HB; have HO214 := n0_; have BK210 := n1_; have BK211 := n2_; have BK215 := n3_; have HB := n4_; clear n0_ n1_ n2_ n3_ n4_; (try clear hb); (try clear hb2); (try clear hk); (try clear hi)))
      go_meet
      case rel => exact ⟨_, (true), u6_10, H', ⟨by first | omega | exact Nat.le_refl _⟩, ⟨by (with_reducible repeat (first | apply Kd.R_alloc | apply Kd.R_drewN | apply Kd.R_drew)); exact HO214.out⟩, ⟨by (with_reducible repeat (first | refine blk_drewN ?_ _ | refine blk_drew ?_ | refine blk_alloc ?_ _)); exact BK210.out⟩, ⟨by (with_reducible repeat (first | refine blk_drewN ?_ _ | refine blk_drew ?_ | refine blk_alloc ?_ _)); exact BK211.out⟩, ⟨by (with_reducible repeat (first | refine blk_drewN ?_ _ | refine blk_drew ?_ | refine blk_alloc ?_ _)); exact BK215.out⟩, ⟨by repeat (first | (with_reducible first | exact HB.out | apply below_alloc | apply pw_below_drewN | apply below_drew1 | refine below_set ?_ GE210.out | refine below_set ?_ GE211.out | refine below_set ?_ GE215.out) | exact HB.out)⟩⟩
  case rest =>
    clear HC8
    try clear c1
    try clear c2
    try clear p2
    try clear c3
    try clear c5
    try clear c11
    try clear c16
    try clear c17
    try clear c24
    try clear c25
    try clear c26
    try clear c29
    try clear c30
    try clear hcz12_0
    try clear hcz18_0
    try clear hcz19_0
    try clear hcz21_0
    try clear hcz27_0
    try clear hcz31_0
    try clear hfz12_0
    try clear hfz18_0
    try clear hfz19_0
    try clear hfz21_0
    try clear hfz27_0
    try clear hfz31_0
    obtain ⟨kq, x29_7, rfl, HA, HJ7, HO_216000, BK210, BK211, BK215, HB⟩ := hcut
    cases kq with
    | zero => exact absurd HA.out (by simp [impl_MoveMoney.j0])
    | succ kj7 =>
      have H := HA.out
      clear HA
      simp only [impl_MoveMoney.j0] at H
      by_cases c33 : x29_7 = true
      · subst c33
        have H1 : (some (t212, 1)) = some (r1, r2) := by rw [if_pos rfl] at H; exact H
        clear H
        have H := H1
        clear H1
        simp only [Option.some.injEq, Prod.mk.injEq] at H
        obtain ⟨rfl, rfl⟩ := H
        have hnb34 := NB215_210.out
        have hnc34 := NB210_215.out
        have hnb35 := NB215_211.out
        have hnc35 := NB211_215.out
        have hcz36_0 : wc.cell? ⟨gb215, 0, none⟩ = some (.slice Ao15 t212.length co15) := (blk_cell BK215.out 0).trans rfl
        have hfz36_0 := blk_frozen BK215.out 0
        have hnb37 := NB211_210.out
        have hnc37 := NB210_211.out
        have hcz38_0 : wc.cell? ⟨gb211, 0, none⟩ = some (.slice none 0 0) := (blk_cell BK211.out 0).trans rfl
        have hfz38_0 := blk_frozen BK211.out 0
        go_wp2
        refine bodyPost_ret (results_ct rfl _ _ gb211 29 #[.slice Ao15 t212.length co15] (0, 0) _ rfl u6_1 Try.underlying29 rfl (by kernel_rfl)) rfl ?_
        exact ⟨_, by first | rfl | (simp [errW_none, errW_some] <;> rfl) | (simp [*, errW_none, errW_some] <;> rfl), by (with_reducible repeat (first | apply Kd.R_alloc | apply Kd.R_drewN | apply Kd.R_drew)); exact Kd.R_mono (Kd.R_far (p := ⟨gb211, 0, none⟩) (Kd.R_types HO_216000.out BK211.out (by decide)) (fun _ hk => hk.2) (.slice Ao15 t212.length co15)) (fun _ hk => trivial), by repeat (first | (with_reducible first | exact HB.out | apply below_alloc | apply pw_below_drewN | apply below_drew1 | refine below_set ?_ GE210.out | refine below_set ?_ GE211.out | refine below_set ?_ GE215.out) | exact HB.out)⟩
      · replace c33 := Bool.eq_false_iff.mpr c33
        subst c33
        have H1 : (if t217 = true then (impl_MoveMoney.j1 kj7 a3 t216 t218 (!t219) l0_0 t212) else (impl_MoveMoney.j1 kj7 a3 t216 t218 true l0_0 t212)) = some (r1, r2) := by rw [if_neg (show ¬ (false = true) by decide)] at H; exact H
        clear H
        have H := H1
        clear H1
        have HC39 := Aside0.mk H
        clear H
        go_upto_region 6 with (fail)
        go_cut [39] (fun v39 wc => ∃ (kq : Nat) (x39_38 : Bool), v39 = .bool x39_38 ∧ Aside0 (impl_MoveMoney.j1 kq a3 t216 t218 x39_38 l0_0 t212 = some (r1, r2)) ∧ Aside0 (kq ≤ kj7) ∧ Aside0 (Kd.R k53 53 wc w.heap.size (fun _ => True) (.slice Ao15 t212.length co15) t212) ∧ Aside0 (wc.heap[gb210]? = some (.cells #[(.slice A0_0 l0_0.length c0_0)] 29 (0, 0))) ∧ Aside0 (wc.heap[gb211]? = some (.cells #[(.slice none 0 0)] 29 (0, 0))) ∧ Aside0 (wc.heap[gb215]? = some (.cells #[(.slice Ao15 t212.length co15)] 29 (0, 0))) ∧ Aside0 (Below w.heap.size w wc))
        case first =>
          have H := HC39.out
          clear HC39
          by_cases c40 : t217 = true
          · subst c40
            have H1 : (impl_MoveMoney.j1 kj7 a3 t216 t218 (!t219) l0_0 t212) = some (r1, r2) := by rw [if_pos rfl] at H; exact H
            clear H
            have H := H1
            clear H1
            have H' := Aside0.mk H
            clear H
            go_wp2
            go_meet
            case rel => exact ⟨_, (!t219), u6_10, H', ⟨by have := HJ7.out; first | omega | exact Nat.le_refl _⟩, ⟨by (with_reducible repeat (first | apply Kd.R_alloc | apply Kd.R_drewN | apply Kd.R_drew)); exact HO_216000.out⟩, ⟨by (with_reducible repeat (first | refine blk_drewN ?_ _ | refine blk_drew ?_ | refine blk_alloc ?_ _)); exact BK210.out⟩, ⟨by (with_reducible repeat (first | refine blk_drewN ?_ _ | refine blk_drew ?_ | refine blk_alloc ?_ _)); exact BK211.out⟩, ⟨by (with_reducible repeat (first | refine blk_drewN ?_ _ | refine blk_drew ?_ | refine blk_alloc ?_ _)); exact BK215.out⟩, ⟨by repeat (first | (with_reducible first | exact HB.out | apply below_alloc | apply pw_below_drewN | apply below_drew1 | refine below_set ?_ GE210.out | refine below_set ?_ GE211.out | refine below_set ?_ GE215.out) | exact HB.out)⟩⟩
          · replace c40 := Bool.eq_false_iff.mpr c40
            subst c40
            have H1 : (impl_MoveMoney.j1 kj7 a3 t216 t218 true l0_0 t212) = some (r1, r2) := by rw [if_neg (show ¬ (false = true) by decide)] at H; exact H
            clear H
            have H := H1
            clear H1
            have H' := Aside0.mk H
            clear H
            go_wp2
            go_meet
            case rel => exact ⟨_, (true), u6_10, H', ⟨by have := HJ7.out; first | omega | exact Nat.le_refl _⟩, ⟨by (with_reducible repeat (first | apply Kd.R_alloc | apply Kd.R_drewN | apply Kd.R_drew)); exact HO_216000.out⟩, ⟨by (with_reducible repeat (first | refine blk_drewN ?_ _ | refine blk_drew ?_ | refine blk_alloc ?_ _)); exact BK210.out⟩, ⟨by (with_reducible repeat (first | refine blk_drewN ?_ _ | refine blk_drew ?_ | refine blk_alloc ?_ _)); exact BK211.out⟩, ⟨by (with_reducible repeat (first | refine blk_drewN ?_ _ | refine blk_drew ?_ | refine blk_alloc ?_ _)); exact BK215.out⟩, ⟨by repeat (first | (with_reducible first | exact HB.out | apply below_alloc | apply pw_below_drewN | apply below_drew1 | refine below_set ?_ GE210.out | refine below_set ?_ GE211.out | refine below_set ?_ GE215.out) | exact HB.out)⟩⟩
        case rest =>
          clear HC39
          try clear c1
          try clear c2
          try clear p2
          try clear c3
          try clear c4
          try clear c5
          try clear c11
          try clear c16
          try clear c17
          try clear c24
          try clear c25
          try clear c26
          try clear c29
          try clear c30
          try clear c33
          try clear c34
          try clear c35
          try clear c37
          try clear c40
          try clear hcz12_0
          try clear hcz18_0
          try clear hcz19_0
          try clear hcz21_0
          try clear hcz27_0
          try clear hcz31_0
          try clear hcz36_0
          try clear hcz38_0
          try clear hfz12_0
          try clear hfz18_0
          try clear hfz19_0
          try clear hfz21_0
          try clear hfz27_0
          try clear hfz31_0
          try clear hfz36_0
          try clear hfz38_0
          try clear p2
          obtain ⟨kq, x39_38, rfl, HA, HJ38, HO_216000, BK210, BK211, BK215, HB⟩ := hcut
          cases kq with
          | zero => exact absurd HA.out (by simp [impl_MoveMoney.j1])
          | succ kj38 =>
            have H := HA.out
            clear HA
            simp only [impl_MoveMoney.j1] at H
            by_cases c41 : x39_38 = true
            · subst c41
              have H1 : (some (t212, 2)) = some (r1, r2) := by rw [if_pos rfl] at H; exact H
              clear H
              have H := H1
              clear H1
              simp only [Option.some.injEq, Prod.mk.injEq] at H
              obtain ⟨rfl, rfl⟩ := H
              have hnb42 := NB215_210.out
              have hnc42 := NB210_215.out
              have hnb43 := NB215_211.out
              have hnc43 := NB211_215.out
              have hcz44_0 : wc.cell? ⟨gb215, 0, none⟩ = some (.slice Ao15 t212.length co15) := (blk_cell BK215.out 0).trans rfl
              have hfz44_0 := blk_frozen BK215.out 0
              have hnb45 := NB211_210.out
              have hnc45 := NB210_211.out
              have hcz46_0 : wc.cell? ⟨gb211, 0, none⟩ = some (.slice none 0 0) := (blk_cell BK211.out 0).trans rfl
              have hfz46_0 := blk_frozen BK211.out 0
              go_wp2
              refine bodyPost_ret (results_ct rfl _ _ gb211 29 #[.slice Ao15 t212.length co15] (0, 0) _ rfl u6_1 Try.underlying29 rfl (by kernel_rfl)) rfl ?_
              exact ⟨_, by first | rfl | (simp [errW_none, errW_some] <;> rfl) | (simp [*, errW_none, errW_some] <;> rfl), by (with_reducible repeat (first | apply Kd.R_alloc | apply Kd.R_drewN | apply Kd.R_drew)); exact Kd.R_mono (Kd.R_far (p := ⟨gb211, 0, none⟩) (Kd.R_types HO_216000.out BK211.out (by decide)) (fun _ hk => hk.2) (.slice Ao15 t212.length co15)) (fun _ hk => trivial), by repeat (first | (with_reducible first | exact HB.out | apply below_alloc | apply pw_below_drewN | apply below_drew1 | refine below_set ?_ GE210.out | refine below_set ?_ GE211.out | refine below_set ?_ GE215.out) | exact HB.out)⟩
            · replace c41 := Bool.eq_false_iff.mpr c41
              subst c41
              have H1 : (if 0 ≤ t216 then (if t216 < (l0_0.length : Int) then (if ((rd_T53 l0_0 t216).f4) = 0 then (if 0 ≤ t218 then (if t218 < (l0_0.length : Int) then (impl_MoveMoney.j2 kj38 a3 t216 t218 (((rd_T53 l0_0 t218).f4) != 0) l0_0 t212) else (none)) else (none)) else (impl_MoveMoney.j2 kj38 a3 t216 t218 true l0_0 t212)) else (none)) else (none)) = some (r1, r2) := by rw [if_neg (show ¬ (false = true) by decide)] at H; exact H
              clear H
              have H := H1
              clear H1
              have HC47 := Aside0.mk H
              clear H
              go_upto_region 8 with (fail)
              go_cut [47] (fun v47 wc => ∃ (kq : Nat) (x47_46 : Bool), v47 = .bool x47_46 ∧ Aside0 (impl_MoveMoney.j2 kq a3 t216 t218 x47_46 l0_0 t212 = some (r1, r2)) ∧ Aside0 (kq ≤ kj38) ∧ Aside0 (Kd.R k53 53 wc w.heap.size (fun _ => True) (.slice Ao15 t212.length co15) t212) ∧ Aside0 (wc.heap[gb210]? = some (.cells #[(.slice A0_0 l0_0.length c0_0)] 29 (0, 0))) ∧ Aside0 (wc.heap[gb211]? = some (.cells #[(.slice none 0 0)] 29 (0, 0))) ∧ Aside0 (wc.heap[gb215]? = some (.cells #[(.slice Ao15 t212.length co15)] 29 (0, 0))) ∧ Aside0 (Below w.heap.size w wc))
              case first =>
                have H := HC47.out
                clear HC47
                by_cases c48 : 0 ≤ t216
                · rw [if_pos c48] at H
                  have c48b0 : decide (0 ≤ t216) = true := decide_eq_true c48
                  clear c48
                  (first | rw [c48b0] | (simp only [i64_w, i32_w]; rw [c48b0]) | skip)
                  by_cases c49 : t216 < (l0_0.length : Int)
                  · rw [if_pos c49] at H
                    have c49b0 : decide (t216 < (l0_0.length : Int)) = true := decide_eq_true c49
                    clear c49
                    by_cases c50 : ((rd_T53 l0_0 t216).f4) = 0
                    · rw [if_pos c50] at H
                      have c50b0 : (((rd_T53 l0_0 t216).f4) == 0) = true := beq_iff_eq.mpr c50
                      have c50b1 : (((rd_T53 l0_0 t216).f4) != 0) = false := bne_eq_false_iff_eq.mpr c50
                      clear c50
                      by_cases c51 : 0 ≤ t218
                      · rw [if_pos c51] at H
                        have c51b0 : decide (0 ≤ t218) = true := decide_eq_true c51
                        clear c51
                        by_cases c52 : t218 < (l0_0.length : Int)
                        · rw [if_pos c52] at H
                          have c52b0 : decide (t218 < (l0_0.length : Int)) = true := decide_eq_true c52
                          clear c52
                          have H' := Aside0.mk H
                          clear H
                          have hnb53 := NB210_211.out
                          have hnc53 := NB211_210.out
                          have hnb54 := NB210_215.out
                          have hnc54 := NB215_210.out
                          have hcz55_0 : wc.cell? ⟨gb210, 0, none⟩ = some (.slice A0_0 l0_0.length c0_0) := (blk_cell BK210.out 0).trans rfl
                          have hfz55_0 := blk_frozen BK210.out 0
                          have p221 : 0 ≤ (t216 : Int) := of_decide_eq_true u6_0
                          have q221 : t216 < (l0_0.length : Int) := of_decide_eq_true u6_0
                          obtain ⟨ad221, e221, hx221_0, hx221_1, hx221_2, hx221_3, hx221_4⟩ := at_T53 HR0_0.out t216 p221 q221
                          cases e221
                          replace hx221_0 := (HB.out.cell (World.block_lt_of_cell? w _ hx221_0)).trans hx221_0
                          replace hx221_1 := (HB.out.cell (World.block_lt_of_cell? w _ hx221_1)).trans hx221_1
                          replace hx221_2 := (HB.out.cell (World.block_lt_of_cell? w _ hx221_2)).trans hx221_2
                          replace hx221_3 := (HB.out.cell (World.block_lt_of_cell? w _ hx221_3)).trans hx221_3
                          replace hx221_4 := (HB.out.cell (World.block_lt_of_cell? w _ hx221_4)).trans hx221_4
                          replace p221 := eq_true p221
                          replace q221 := eq_true q221
                          have p222 : 0 ≤ (t218 : Int) := of_decide_eq_true u6_0
                          have q222 : t218 < (l0_0.length : Int) := of_decide_eq_true u6_0
                          obtain ⟨ad222, e222, hx222_0, hx222_1, hx222_2, hx222_3, hx222_4⟩ := at_T53 HR0_0.out t218 p222 q222
                          obtain rfl : ad221 = ad222 := (by injection e222)
                          replace hx222_0 := (HB.out.cell (World.block_lt_of_cell? w _ hx222_0)).trans hx222_0
                          replace hx222_1 := (HB.out.cell (World.block_lt_of_cell? w _ hx222_1)).trans hx222_1
                          replace hx222_2 := (HB.out.cell (World.block_lt_of_cell? w _ hx222_2)).trans hx222_2
                          replace hx222_3 := (HB.out.cell (World.block_lt_of_cell? w _ hx222_3)).trans hx222_3
                          replace hx222_4 := (HB.out.cell (World.block_lt_of_cell? w _ hx222_4)).trans hx222_4
                          replace p222 := eq_true p222
                          replace q222 := eq_true q222
                          go_wp2
                          go_meet
                          case rel => exact ⟨_, ((((rd_T53 l0_0 t218).f4) != 0)), u6_10, H', ⟨by have := HJ7.out; have := HJ38.out; first | omega | exact Nat.le_refl _⟩, ⟨by (with_reducible repeat (first | apply Kd.R_alloc | apply Kd.R_drewN | apply Kd.R_drew)); exact HO_216000.out⟩, ⟨by (with_reducible repeat (first | refine blk_drewN ?_ _ | refine blk_drew ?_ | refine blk_alloc ?_ _)); exact BK210.out⟩, ⟨by (with_reducible repeat (first | refine blk_drewN ?_ _ | refine blk_drew ?_ | refine blk_alloc ?_ _)); exact BK211.out⟩, ⟨by (with_reducible repeat (first | refine blk_drewN ?_ _ | refine blk_drew ?_ | refine blk_alloc ?_ _)); exact BK215.out⟩, ⟨by repeat (first | (with_reducible first | exact HB.out | apply below_alloc | apply pw_below_drewN | apply below_drew1 | refine below_set ?_ GE210.out | refine below_set ?_ GE211.out | refine below_set ?_ GE215.out) | exact HB.out)⟩⟩
                        · rw [if_neg c52] at H
                          exact absurd H (by simp)
                      · rw [if_neg c51] at H
                        exact absurd H (by simp)
                    · rw [if_neg c50] at H
                      have c50b0 : (((rd_T53 l0_0 t216).f4) == 0) = false := beq_eq_false_iff_ne.mpr c50
                      have c50b1 : (((rd_T53 l0_0 t216).f4) != 0) = true := bne_iff_ne.mpr c50
                      have H' := Aside0.mk H
                      clear H
                      have hnb56 := NB210_211.out
                      have hnc56 := NB211_210.out
                      have hnb57 := NB210_215.out
                      have hnc57 := NB215_210.out
                      have hcz58_0 : wc.cell? ⟨gb210, 0, none⟩ = some (.slice A0_0 l0_0.length c0_0) := (blk_cell BK210.out 0).trans rfl
                      have hfz58_0 := blk_frozen BK210.out 0
                      have p221 : 0 ≤ (t216 : Int) := of_decide_eq_true u6_0
                      have q221 : t216 < (l0_0.length : Int) := of_decide_eq_true u6_0
                      obtain ⟨ad221, e221, hx221_0, hx221_1, hx221_2, hx221_3, hx221_4⟩ := at_T53 HR0_0.out t216 p221 q221
                      cases e221
                      replace hx221_0 := (HB.out.cell (World.block_lt_of_cell? w _ hx221_0)).trans hx221_0
                      replace hx221_1 := (HB.out.cell (World.block_lt_of_cell? w _ hx221_1)).trans hx221_1
                      replace hx221_2 := (HB.out.cell (World.block_lt_of_cell? w _ hx221_2)).trans hx221_2
                      replace hx221_3 := (HB.out.cell (World.block_lt_of_cell? w _ hx221_3)).trans hx221_3
                      replace hx221_4 := (HB.out.cell (World.block_lt_of_cell? w _ hx221_4)).trans hx221_4
                      replace p221 := eq_true p221
                      replace q221 := eq_true q221
                      go_wp2
                      go_meet
                      case rel => exact ⟨_, (true), u6_10, H', ⟨by have := HJ7.out; have := HJ38.out; first | omega | exact Nat.le_refl _⟩, ⟨by (with_reducible repeat (first | apply Kd.R_alloc | apply Kd.R_drewN | apply Kd.R_drew)); exact HO_216000.out⟩, ⟨by (with_reducible repeat (first | refine blk_drewN ?_ _ | refine blk_drew ?_ | refine blk_alloc ?_ _)); exact BK210.out⟩, ⟨by (with_reducible repeat (first | refine blk_drewN ?_ _ | refine blk_drew ?_ | refine blk_alloc ?_ _)); exact BK211.out⟩, ⟨by (with_reducible repeat (first | refine blk_drewN ?_ _ | refine blk_drew ?_ | refine blk_alloc ?_ _)); exact BK215.out⟩, ⟨by repeat (first | (with_reducible first | exact HB.out | apply below_alloc | apply pw_below_drewN | apply below_drew1 | refine below_set ?_ GE210.out | refine below_set ?_ GE211.out | refine below_set ?_ GE215.out) | exact HB.out)⟩⟩
                  · rw [if_neg c49] at H
                    exact absurd H (by simp)
                · rw [if_neg c48] at H
                  exact absurd H (by simp)
              case rest =>
                clear HC47
                try clear c1
                try clear c2
                try clear p2
                try clear q2
                try clear hx2
                try clear c3
                try clear c4
                try clear c5
                try clear c11
                try clear c16
                try clear c17
                try clear p22
                try clear q22
                try clear hx22
                try clear c24
                try clear c25
                try clear c26
                try clear c29
                try clear c30
                try clear c33
                try clear c34
                try clear c35
                try clear c37
                try clear c40
                try clear c41
                try clear c42
                try clear c43
                try clear c45
                try clear c48
                try clear c48b0
                try clear c49
                try clear c49b0
                try clear c50
                try clear c50b0
                try clear c50b1
                try clear c51
                try clear c51b0
                try clear c52
                try clear c52b0
                try clear c53
                try clear c54
                try clear c56
                try clear c57
                try clear hcz12_0
                try clear hcz18_0
                try clear hcz19_0
                try clear hcz21_0
                try clear hcz27_0
                try clear hcz31_0
                try clear hcz36_0
                try clear hcz38_0
                try clear hcz44_0
                try clear hcz46_0
                try clear hcz55_0
                try clear hcz58_0
                try clear hfz12_0
                try clear hfz18_0
                try clear hfz19_0
                try clear hfz21_0
                try clear hfz27_0
                try clear hfz31_0
                try clear hfz36_0
                try clear hfz38_0
                try clear hfz44_0
                try clear hfz46_0
                try clear hfz55_0
                try clear hfz58_0
                try clear hx221_0
                try clear hx221_1
                try clear hx221_2
                try clear hx221_3
                try clear hx221_4
                try clear hx222_0
                try clear hx222_1
                try clear hx222_2
                try clear hx222_3
                try clear hx222_4
                try clear p2
                try clear p221
                try clear p222
                try clear q221
                try clear q222
                obtain ⟨kq, x47_46, rfl, HA, HJ46, HO_216000, BK210, BK211, BK215, HB⟩ := hcut
                cases kq with
                | zero => exact absurd HA.out (by simp [impl_MoveMoney.j2])
                | succ kj46 =>
                  have H := HA.out
                  clear HA
                  simp only [impl_MoveMoney.j2] at H
                  by_cases c59 : x47_46 = true
                  · subst c59
                    have H1 : (some (t212, 6)) = some (r1, r2) := by rw [if_pos rfl] at H; exact H
                    clear H
                    have H := H1
                    clear H1
                    simp only [Option.some.injEq, Prod.mk.injEq] at H
                    obtain ⟨rfl, rfl⟩ := H
                    have hnb60 := NB215_210.out
                    have hnc60 := NB210_215.out
                    have hnb61 := NB215_211.out
                    have hnc61 := NB211_215.out
                    have hcz62_0 : wc.cell? ⟨gb215, 0, none⟩ = some (.slice Ao15 t212.length co15) := (blk_cell BK215.out 0).trans rfl
                    have hfz62_0 := blk_frozen BK215.out 0
                    have hnb63 := NB211_210.out
                    have hnc63 := NB210_211.out
                    have hcz64_0 : wc.cell? ⟨gb211, 0, none⟩ = some (.slice none 0 0) := (blk_cell BK211.out 0).trans rfl
                    have hfz64_0 := blk_frozen BK211.out 0
                    go_wp2
                    refine bodyPost_ret (results_ct rfl _ _ gb211 29 #[.slice Ao15 t212.length co15] (0, 0) _ rfl u6_1 Try.underlying29 rfl (by kernel_rfl)) rfl ?_
                    exact ⟨_, by first | rfl | (simp [errW_none, errW_some] <;> rfl) | (simp [*, errW_none, errW_some] <;> rfl), by (with_reducible repeat (first | apply Kd.R_alloc | apply Kd.R_drewN | apply Kd.R_drew)); exact Kd.R_mono (Kd.R_far (p := ⟨gb211, 0, none⟩) (Kd.R_types HO_216000.out BK211.out (by decide)) (fun _ hk => hk.2) (.slice Ao15 t212.length co15)) (fun _ hk => trivial), by repeat (first | (with_reducible first | exact HB.out | apply below_alloc | apply pw_below_drewN | apply below_drew1 | refine below_set ?_ GE210.out | refine below_set ?_ GE211.out | refine below_set ?_ GE215.out) | exact HB.out)⟩
                  · replace c59 := Bool.eq_false_iff.mpr c59
                    subst c59
                    have H1 : (if 0 ≤ t216 then (if t216 < (l0_0.length : Int) then (if ((rd_T53 l0_0 t216).f1) < a3 then (some (t212, 4)) else (if 0 ≤ t218 then (if t218 < (l0_0.length : Int) then (if (IntKind.u64.wrap (((rd_T53 l0_0 t218).f1) + a3)) < a3 then (some (t212, 5)) else (if t216 < (t212.length : Int) then ((some (t212.set (t216 : Int).toNat (⟨(rd_T53 t212 t216).f0, IntKind.u64.wrap (((rd_T53 t212 t216).f1) - a3), (rd_T53 t212 t216).f2, (rd_T53 t212 t216).f3, (rd_T53 t212 t216).f4⟩ : S53) : List (S53))).bind fun y226 => (if t218 < (t212.length : Int) then (some ((y226.set (t218 : Int).toNat (⟨(rd_T53 y226 t218).f0, IntKind.u64.wrap (((rd_T53 y226 t218).f1) + a3), (rd_T53 y226 t218).f2, (rd_T53 y226 t218).f3, (rd_T53 y226 t218).f4⟩ : S53)), 0)) else (none))) else (none))) else (none)) else (none))) else (none)) else (none)) = some (r1, r2) := by rw [if_neg (show ¬ (false = true) by decide)] at H; exact H
                    clear H
                    have H := H1
                    clear H1
                    by_cases c65 : 0 ≤ t216
                    · rw [if_pos c65] at H
                      have c65b0 : decide (0 ≤ t216) = true := decide_eq_true c65
                      clear c65
                      by_cases c66 : t216 < (l0_0.length : Int)
                      · rw [if_pos c66] at H
                        have c66b0 : decide (t216 < (l0_0.length : Int)) = true := decide_eq_true c66
                        clear c66
                        by_cases c67 : ((rd_T53 l0_0 t216).f1) < a3
                        · rw [if_pos c67] at H
                          have c67b0 : decide (((rd_T53 l0_0 t216).f1) < a3) = true := decide_eq_true c67
                          clear c67
                          simp only [Option.some.injEq, Prod.mk.injEq] at H
                          obtain ⟨rfl, rfl⟩ := H
                          have hnb68 := NB210_211.out
                          have hnc68 := NB211_210.out
                          have hnb69 := NB210_215.out
                          have hnc69 := NB215_210.out
                          have hcz70_0 : wc.cell? ⟨gb210, 0, none⟩ = some (.slice A0_0 l0_0.length c0_0) := (blk_cell BK210.out 0).trans rfl
                          have hfz70_0 := blk_frozen BK210.out 0
                          have p223 : 0 ≤ (t216 : Int) := of_decide_eq_true u6_0
                          have q223 : t216 < (l0_0.length : Int) := of_decide_eq_true u6_0
                          obtain ⟨ad223, e223, hx223_0, hx223_1, hx223_2, hx223_3, hx223_4⟩ := at_T53 HR0_0.out t216 p223 q223
                          cases e223
                          replace hx223_0 := (HB.out.cell (World.block_lt_of_cell? w _ hx223_0)).trans hx223_0
                          replace hx223_1 := (HB.out.cell (World.block_lt_of_cell? w _ hx223_1)).trans hx223_1
                          replace hx223_2 := (HB.out.cell (World.block_lt_of_cell? w _ hx223_2)).trans hx223_2
                          replace hx223_3 := (HB.out.cell (World.block_lt_of_cell? w _ hx223_3)).trans hx223_3
                          replace hx223_4 := (HB.out.cell (World.block_lt_of_cell? w _ hx223_4)).trans hx223_4
                          replace p223 := eq_true p223
                          replace q223 := eq_true q223
                          have hnb71 := NB215_211.out
                          have hnc71 := NB211_215.out
                          have hcz72_0 : wc.cell? ⟨gb215, 0, none⟩ = some (.slice Ao15 t212.length co15) := (blk_cell BK215.out 0).trans rfl
                          have hfz72_0 := blk_frozen BK215.out 0
                          have hcz73_0 : wc.cell? ⟨gb211, 0, none⟩ = some (.slice none 0 0) := (blk_cell BK211.out 0).trans rfl
                          have hfz73_0 := blk_frozen BK211.out 0
                          go_wp2
                          refine bodyPost_ret (results_ct rfl _ _ gb211 29 #[.slice Ao15 t212.length co15] (0, 0) _ rfl u6_1 Try.underlying29 rfl (by kernel_rfl)) rfl ?_
                          exact ⟨_, by first | rfl | (simp [errW_none, errW_some] <;> rfl) | (simp [*, errW_none, errW_some] <;> rfl), by (with_reducible repeat (first | apply Kd.R_alloc | apply Kd.R_drewN | apply Kd.R_drew)); exact Kd.R_mono (Kd.R_far (p := ⟨gb211, 0, none⟩) (Kd.R_types HO_216000.out BK211.out (by decide)) (fun _ hk => hk.2) (.slice Ao15 t212.length co15)) (fun _ hk => trivial), by repeat (first | (with_reducible first | exact HB.out | apply below_alloc | apply pw_below_drewN | apply below_drew1 | refine below_set ?_ GE210.out | refine below_set ?_ GE211.out | refine below_set ?_ GE215.out) | exact HB.out)⟩
                        · rw [if_neg c67] at H
                          have c67b0 : decide (((rd_T53 l0_0 t216).f1) < a3) = false := decide_eq_false c67
                          clear c67
                          by_cases c74 : 0 ≤ t218
                          · rw [if_pos c74] at H
                            have c74b0 : decide (0 ≤ t218) = true := decide_eq_true c74
                            clear c74
                            by_cases c75 : t218 < (l0_0.length : Int)
                            · rw [if_pos c75] at H
                              have c75b0 : decide (t218 < (l0_0.length : Int)) = true := decide_eq_true c75
                              clear c75
                              by_cases c76 : (IntKind.u64.wrap (((rd_T53 l0_0 t218).f1) + a3)) < a3
                              · rw [if_pos c76] at H
                                have c76b0 : decide ((IntKind.u64.wrap (((rd_T53 l0_0 t218).f1) + a3)) < a3) = true := decide_eq_true c76
                                clear c76
                                simp only [Option.some.injEq, Prod.mk.injEq] at H
                                obtain ⟨rfl, rfl⟩ := H
                                have hnb77 := NB210_211.out
                                have hnc77 := NB211_210.out
                                have hnb78 := NB210_215.out
                                have hnc78 := NB215_210.out
                                have hcz79_0 : wc.cell? ⟨gb210, 0, none⟩ = some (.slice A0_0 l0_0.length c0_0) := (blk_cell BK210.out 0).trans rfl
                                have hfz79_0 := blk_frozen BK210.out 0
                                have p223 : 0 ≤ (t216 : Int) := of_decide_eq_true u6_0
                                have q223 : t216 < (l0_0.length : Int) := of_decide_eq_true u6_0
                                obtain ⟨ad223, e223, hx223_0, hx223_1, hx223_2, hx223_3, hx223_4⟩ := at_T53 HR0_0.out t216 p223 q223
                                cases e223
                                replace hx223_0 := (HB.out.cell (World.block_lt_of_cell? w _ hx223_0)).trans hx223_0
                                replace hx223_1 := (HB.out.cell (World.block_lt_of_cell? w _ hx223_1)).trans hx223_1
                                replace hx223_2 := (HB.out.cell (World.block_lt_of_cell? w _ hx223_2)).trans hx223_2
                                replace hx223_3 := (HB.out.cell (World.block_lt_of_cell? w _ hx223_3)).trans hx223_3
                                replace hx223_4 := (HB.out.cell (World.block_lt_of_cell? w _ hx223_4)).trans hx223_4
                                replace p223 := eq_true p223
                                replace q223 := eq_true q223
                                have p224 : 0 ≤ (t218 : Int) := of_decide_eq_true u6_0
                                have q224 : t218 < (l0_0.length : Int) := of_decide_eq_true u6_0
                                obtain ⟨ad224, e224, hx224_0, hx224_1, hx224_2, hx224_3, hx224_4⟩ := at_T53 HR0_0.out t218 p224 q224
                                obtain rfl : ad223 = ad224 := (by injection e224)
                                replace hx224_0 := (HB.out.cell (World.block_lt_of_cell? w _ hx224_0)).trans hx224_0
                                replace hx224_1 := (HB.out.cell (World.block_lt_of_cell? w _ hx224_1)).trans hx224_1
                                replace hx224_2 := (HB.out.cell (World.block_lt_of_cell? w _ hx224_2)).trans hx224_2
                                replace hx224_3 := (HB.out.cell (World.block_lt_of_cell? w _ hx224_3)).trans hx224_3
                                replace hx224_4 := (HB.out.cell (World.block_lt_of_cell? w _ hx224_4)).trans hx224_4
                                replace p224 := eq_true p224
                                replace q224 := eq_true q224
                                have hnb80 := NB215_211.out
                                have hnc80 := NB211_215.out
                                have hcz81_0 : wc.cell? ⟨gb215, 0, none⟩ = some (.slice Ao15 t212.length co15) := (blk_cell BK215.out 0).trans rfl
                                have hfz81_0 := blk_frozen BK215.out 0
                                have hcz82_0 : wc.cell? ⟨gb211, 0, none⟩ = some (.slice none 0 0) := (blk_cell BK211.out 0).trans rfl
                                have hfz82_0 := blk_frozen BK211.out 0
                                go_wp2
                                refine bodyPost_ret (results_ct rfl _ _ gb211 29 #[.slice Ao15 t212.length co15] (0, 0) _ rfl u6_1 Try.underlying29 rfl (by kernel_rfl)) rfl ?_
                                exact ⟨_, by first | rfl | (simp [errW_none, errW_some] <;> rfl) | (simp [*, errW_none, errW_some] <;> rfl), by (with_reducible repeat (first | apply Kd.R_alloc | apply Kd.R_drewN | apply Kd.R_drew)); exact Kd.R_mono (Kd.R_far (p := ⟨gb211, 0, none⟩) (Kd.R_types HO_216000.out BK211.out (by decide)) (fun _ hk => hk.2) (.slice Ao15 t212.length co15)) (fun _ hk => trivial), by repeat (first | (with_reducible first | exact HB.out | apply below_alloc | apply pw_below_drewN | apply below_drew1 | refine below_set ?_ GE210.out | refine below_set ?_ GE211.out | refine below_set ?_ GE215.out) | exact HB.out)⟩
                              · rw [if_neg c76] at H
                                have c76b0 : decide ((IntKind.u64.wrap (((rd_T53 l0_0 t218).f1) + a3)) < a3) = false := decide_eq_false c76
                                clear c76
                                by_cases c83 : t216 < (t212.length : Int)
                                · rw [if_pos c83] at H
                                  have c83b0 : decide (t216 < (t212.length : Int)) = true := decide_eq_true c83
                                  clear c83
                                  obtain ⟨y226, hy226⟩ : ∃ y_ : List (S53), y_ = (t212.set (t216 : Int).toNat (⟨(rd_T53 t212 t216).f0, IntKind.u64.wrap (((rd_T53 t212 t216).f1) - a3), (rd_T53 t212 t216).f2, (rd_T53 t212 t216).f3, (rd_T53 t212 t216).f4⟩ : S53)) := ⟨_, rfl⟩
                                  replace H : (if t218 < (t212.length : Int) then (some ((y226.set (t218 : Int).toNat (⟨(rd_T53 y226 t218).f0, IntKind.u64.wrap (((rd_T53 y226 t218).f1) + a3), (rd_T53 y226 t218).f2, (rd_T53 y226 t218).f3, (rd_T53 y226 t218).f4⟩ : S53)), 0)) else (none)) = some (r1, r2) := by first | (rw [hy226]; with_reducible exact H) | (have H2_ := (Option.bind_some _ _).symm.trans H; rw [hy226]; with_reducible exact H2_) | (have H2_ := (Option.bind_some _ _).symm.trans H; with_reducible exact H2_) | with_reducible exact H | (rw [hy226]; exact H) | exact H
                                  have Ny226 := Aside0.mk hy226
                                  clear hy226
                                  by_cases c85 : t218 < (t212.length : Int)
                                  · rw [if_pos c85] at H
                                    have c85b0 : decide (t218 < (t212.length : Int)) = true := decide_eq_true c85
                                    clear c85
                                    obtain ⟨y228, hy228⟩ : ∃ y_ : List (S53), y_ = (y226.set (t218 : Int).toNat (⟨(rd_T53 y226 t218).f0, IntKind.u64.wrap (((rd_T53 y226 t218).f1) + a3), (rd_T53 y226 t218).f2, (rd_T53 y226 t218).f3, (rd_T53 y226 t218).f4⟩ : S53)) := ⟨_, rfl⟩
                                    replace H : (some (y228, 0)) = some (r1, r2) := by first | (rw [hy228]; with_reducible exact H) | (have H2_ := (Option.bind_some _ _).symm.trans H; rw [hy228]; with_reducible exact H2_) | (have H2_ := (Option.bind_some _ _).symm.trans H; with_reducible exact H2_) | with_reducible exact H | (rw [hy228]; exact H) | exact H
                                    have Ny228 := Aside0.mk hy228
                                    clear hy228
                                    simp only [Option.some.injEq, Prod.mk.injEq] at H
                                    obtain ⟨rfl, rfl⟩ := H
                                    have hnb87 := NB210_211.out
                                    have hnc87 := NB211_210.out
                                    have hnb88 := NB210_215.out
                                    have hnc88 := NB215_210.out
                                    have hcz89_0 : wc.cell? ⟨gb210, 0, none⟩ = some (.slice A0_0 l0_0.length c0_0) := (blk_cell BK210.out 0).trans rfl
                                    have hfz89_0 := blk_frozen BK210.out 0
                                    have p223 : 0 ≤ (t216 : Int) := of_decide_eq_true u6_0
                                    have q223 : t216 < (l0_0.length : Int) := of_decide_eq_true u6_0
                                    obtain ⟨ad223, e223, hx223_0, hx223_1, hx223_2, hx223_3, hx223_4⟩ := at_T53 HR0_0.out t216 p223 q223
                                    cases e223
                                    replace hx223_0 := (HB.out.cell (World.block_lt_of_cell? w _ hx223_0)).trans hx223_0
                                    replace hx223_1 := (HB.out.cell (World.block_lt_of_cell? w _ hx223_1)).trans hx223_1
                                    replace hx223_2 := (HB.out.cell (World.block_lt_of_cell? w _ hx223_2)).trans hx223_2
                                    replace hx223_3 := (HB.out.cell (World.block_lt_of_cell? w _ hx223_3)).trans hx223_3
                                    replace hx223_4 := (HB.out.cell (World.block_lt_of_cell? w _ hx223_4)).trans hx223_4
                                    replace p223 := eq_true p223
                                    replace q223 := eq_true q223
                                    have p224 : 0 ≤ (t218 : Int) := of_decide_eq_true u6_0
                                    have q224 : t218 < (l0_0.length : Int) := of_decide_eq_true u6_0
                                    obtain ⟨ad224, e224, hx224_0, hx224_1, hx224_2, hx224_3, hx224_4⟩ := at_T53 HR0_0.out t218 p224 q224
                                    obtain rfl : ad223 = ad224 := (by injection e224)
                                    replace hx224_0 := (HB.out.cell (World.block_lt_of_cell? w _ hx224_0)).trans hx224_0
                                    replace hx224_1 := (HB.out.cell (World.block_lt_of_cell? w _ hx224_1)).trans hx224_1
                                    replace hx224_2 := (HB.out.cell (World.block_lt_of_cell? w _ hx224_2)).trans hx224_2
                                    replace hx224_3 := (HB.out.cell (World.block_lt_of_cell? w _ hx224_3)).trans hx224_3
                                    replace hx224_4 := (HB.out.cell (World.block_lt_of_cell? w _ hx224_4)).trans hx224_4
                                    replace p224 := eq_true p224
                                    replace q224 := eq_true q224
                                    have hnb90 := NB215_211.out
                                    have hnc90 := NB211_215.out
                                    have hcz91_0 : wc.cell? ⟨gb215, 0, none⟩ = some (.slice Ao15 t212.length co15) := (blk_cell BK215.out 0).trans rfl
                                    have hfz91_0 := blk_frozen BK215.out 0
                                    have p225 : 0 ≤ (t216 : Int) := of_decide_eq_true u6_0
                                    have q225 : t216 < (t212.length : Int) := of_decide_eq_true u6_0
                                    obtain ⟨ad225, e225, hx225_0, hx225_1, hx225_2, hx225_3, hx225_4⟩ := at_T53 (Kd.R_reads' HO_216000.out).2.2 t216 p225 q225
                                    cases e225
                                    replace p225 := eq_true p225
                                    replace q225 := eq_true q225
                                    have p84 : 0 ≤ (t216 : Int) := of_decide_eq_true u6_0
                                    have q84 : (t216 : Int) < ((t212.length : Int) : Int) := of_decide_eq_true u6_0
                                    obtain ⟨go84, co84, eo84, gb84, gl84, cl84, HG84⟩ := Kd.R_form HO_216000.out (by omega)
                                    (first | cases eo84 | (injection eo84 with ea_ en_ ec_; (first | subst ea_ | (injection ea_ with ea_; subst ea_)); subst ec_; clear en_))
                                    have GB84 := Aside0.mk gb84
                                    have GG84 := Aside0.mk HG84
                                    clear gb84 gl84 HG84
                                    (first | simp only [add_plain] at hx225_0 | skip)
                                    (first | simp only [add_plain] at hx225_1 | skip)
                                    (first | simp only [add_plain] at hx225_2 | skip)
                                    (first | simp only [add_plain] at hx225_3 | skip)
                                    (first | simp only [add_plain] at hx225_4 | skip)
                                    obtain ⟨ce84, hcl84, hM84, hcc84, hfr84⟩ := Kd.R_elem HO_216000.out z53 (t216 : Int) p84 q84
                                    obtain rfl := k53_openM hM84
                                    have hx84_0 : wc.cell? ⟨go84, (t216 : Int).toNat * 5, none⟩ = some (.int .u64 ((rd_T53 t212 t216).f0)) := hcc84 0 _ rfl
                                    have hx84_1 : wc.cell? ⟨go84, (t216 : Int).toNat * 5 + 1, none⟩ = some (.int .u64 ((rd_T53 t212 t216).f1)) := hcc84 1 _ rfl
                                    have hx84_2 : wc.cell? ⟨go84, (t216 : Int).toNat * 5 + 2, none⟩ = some (.int .u64 ((rd_T53 t212 t216).f2)) := hcc84 2 _ rfl
                                    have hx84_3 : wc.cell? ⟨go84, (t216 : Int).toNat * 5 + 3, none⟩ = some (.int .u64 ((rd_T53 t212 t216).f3)) := hcc84 3 _ rfl
                                    have hx84_4 : wc.cell? ⟨go84, (t216 : Int).toNat * 5 + 4, none⟩ = some (.int .i64 ((rd_T53 t212 t216).f4)) := hcc84 4 _ rfl
                                    have hf84_0 : wc.frozen? ⟨go84, (t216 : Int).toNat * 5, none⟩ = false := hfr84 0
                                    have hf84_1 : wc.frozen? ⟨go84, (t216 : Int).toNat * 5 + 1, none⟩ = false := hfr84 1
                                    have hf84_2 : wc.frozen? ⟨go84, (t216 : Int).toNat * 5 + 2, none⟩ = false := hfr84 2
                                    have hf84_3 : wc.frozen? ⟨go84, (t216 : Int).toNat * 5 + 3, none⟩ = false := hfr84 3
                                    have hf84_4 : wc.frozen? ⟨go84, (t216 : Int).toNat * 5 + 4, none⟩ = false := hfr84 4
                                    clear hcl84 hcc84 hfr84 hM84
                                    replace p84 := eq_true p84
                                    replace q84 := eq_true q84
                                    have HX92 := Aside0.mk (show Kd.R k53 53 wc w.heap.size (fun _ => True) (.slice (some ⟨go84, 0, none⟩) t212.length co15) t212 from u6_14)
                                    obtain ⟨ce92, hcl92, hM92, hcc92, hfr92⟩ := Kd.R_elem HX92.out z53 (t216 : Int) (of_decide_eq_true u6_0) (by have h_ : (t216 : Int) < ((t212.length : Int) : Int) := of_decide_eq_true u6_0; first | exact h_ | (have e_ := (Kd.R_reads' HO_216000.out).1; omega) | simpa using h_)
                                    obtain rfl := k53_openM hM92
                                    have HP92 := Kd.R_seg HX92.out (t216 : Int) (of_decide_eq_true u6_0) (by have h_ : (t216 : Int) < ((t212.length : Int) : Int) := of_decide_eq_true u6_0; first | exact h_ | (have e_ := (Kd.R_reads' HO_216000.out).1; omega) | simpa using h_) (seg := [.int .u64 (IntKind.u64.wrap (((rd_T53 t212 t216).f1) - a3))]) (j := 1) hcl92 hcc92 (show 2 ≤ 5 from by decide) (x' := (⟨(rd_T53 t212 t216).f0, IntKind.u64.wrap (((rd_T53 t212 t216).f1) - a3), (rd_T53 t212 t216).f2, (rd_T53 t212 t216).f3, (rd_T53 t212 t216).f4⟩ : S53)) (k53_mkM _ _ _ (⟨(rd_T53 t212 t216).f0, IntKind.u64.wrap (((rd_T53 t212 t216).f1) - a3), (rd_T53 t212 t216).f2, (rd_T53 t212 t216).f3, (rd_T53 t212 t216).f4⟩ : S53) ) (fun _ hk => hk)
                                    have hx92_1 := hcc92 1 _ rfl
                                    (try simp only [show (k53).sz = 5 from rfl, Nat.mul_one, Nat.add_zero] at hx92_1)
                                    have hf92_1 := hfr92 1
                                    (try simp only [show (k53).sz = 5 from rfl, Nat.mul_one, Nat.add_zero] at hf92_1)
                                    clear hcl92 hcc92 hfr92 hM92
                                    go_wp2_with (first | ((with_reducible refine gate_store (t := 33) (p := 96) rfl ?_); refine store_event (t := 33) (p := 96) (v := ?vo_w93) (w1 := (wc.setCell ⟨go84, (t216 : Int).toNat * 5 + 1, none⟩ (.int .u64 (IntKind.u64.wrap (((rd_T53 t212 t216).f1) - a3))))) ?hg ?ho ?hn ?hr ?_; (case ho => rfl); (case hg => rfl); (case hn => rfl); (case hr => first | (go_simp; done) | (go_simp; rfl)); intro w93 hw; have hg : wc.grownBy w93 (some go84) := (by rw [hw]; exact HP92.2); have hp_ : Kd.R k53 53 w93 w.heap.size (fun _ => True) (.slice (some ⟨go84, 0, none⟩) t212.length co15) y226 := (by rw [hw, Ny226.out]; exact HP92.1); clear HP92; have n0_ := Aside0.mk (hp_); have n1_ := Aside0.mk (blk_grown (g := gb210) (o := .cells #[.slice (some ad223) l0_0.length c0_0] 29 (0, 0)) u6_2 hg (Kd.R_ne HO_216000.out BK210.out (by decide))); have n2_ := Aside0.mk (blk_grown (g := gb211) (o := .cells #[.slice none 0 0] 29 (0, 0)) u6_3 hg (Kd.R_ne HO_216000.out BK211.out (by decide))); have n3_ := Aside0.mk (blk_grown (g := gb215) (o := .cells #[.slice (some ⟨go84, 0, none⟩) t212.length co15] 29 (0, 0)) u6_8 hg (Kd.R_ne HO_216000.out BK215.out (by decide))); have n4_ := Aside0.mk ((by rw [hw]; exact below_set (HB.out) GB84.out : Below w.heap.size w w93)); clear HO_216000; clear BK210; clear BK211; clear BK215; clear HB; have HO_216000 := n0_; have BK210 := n1_; have BK211 := n2_; have BK215 := n3_; have HB := n4_; clear n0_ n1_ n2_ n3_ n4_; clear hg hw hp_; have hcz94_0 : w93.cell? ⟨gb215, 0, none⟩ = some (.slice (some ⟨go84, 0, none⟩) t212.length co15) := (blk_cell BK215.out 0).trans rfl; have hfz94_0 := blk_frozen BK215.out 0; have p227 : 0 ≤ (t218 : Int) := of_decide_eq_true u6_0; have q227 : t218 < (y226.length : Int) := (by have h_ : (t218 : Int) < ((t212.length : Int) : Int) := of_decide_eq_true u6_0; first | (have e_ := (Kd.R_reads' HO_216000.out).1; omega) | simpa only [Ny226.out, List.length_set] using h_); have ql227 : ((t218 : Int) < ((t212.length : Int) : Int)) = True := eq_true (of_decide_eq_true u6_0); obtain ⟨ad227, e227, hx227_0, hx227_1, hx227_2, hx227_3, hx227_4⟩ := at_T53 (Kd.R_reads' HO_216000.out).2.2 t218 p227 q227; obtain rfl : (⟨go84, 0, none⟩ : Addr) = ad227 := (by injection e227); (first | simp only [add_plain] at hx227_0 | simp only [add_at] at hx227_0 | simp only [Addr.add, Nat.zero_add] at hx227_0 | skip); (first | simp only [add_plain] at hx227_1 | simp only [add_at] at hx227_1 | simp only [Addr.add, Nat.zero_add] at hx227_1 | skip); (first | simp only [add_plain] at hx227_2 | simp only [add_at] at hx227_2 | simp only [Addr.add, Nat.zero_add] at hx227_2 | skip); (first | simp only [add_plain] at hx227_3 | simp only [add_at] at hx227_3 | simp only [Addr.add, Nat.zero_add] at hx227_3 | skip); (first | simp only [add_plain] at hx227_4 | simp only [add_at] at hx227_4 | simp only [Addr.add, Nat.zero_add] at hx227_4 | skip); replace p227 := eq_true p227; replace q227 := eq_true q227; have p86 : 0 ≤ (t218 : Int) := of_decide_eq_true u6_0; have q86 : (t218 : Int) < ((t212.length : Int) : Int) := of_decide_eq_true u6_0; obtain ⟨ce86, hcl86, hM86, hcc86, hfr86⟩ := Kd.R_elem HO_216000.out z53 (t218 : Int) p86 q86; obtain rfl := k53_openM hM86; have hx86_0 : w93.cell? ⟨go84, (t218 : Int).toNat * 5, none⟩ = some (.int .u64 ((rd_T53 y226 t218).f0)) := hcc86 0 _ rfl; have hx86_1 : w93.cell? ⟨go84, (t218 : Int).toNat * 5 + 1, none⟩ = some (.int .u64 ((rd_T53 y226 t218).f1)) := hcc86 1 _ rfl; have hx86_2 : w93.cell? ⟨go84, (t218 : Int).toNat * 5 + 2, none⟩ = some (.int .u64 ((rd_T53 y226 t218).f2)) := hcc86 2 _ rfl; have hx86_3 : w93.cell? ⟨go84, (t218 : Int).toNat * 5 + 3, none⟩ = some (.int .u64 ((rd_T53 y226 t218).f3)) := hcc86 3 _ rfl; have hx86_4 : w93.cell? ⟨go84, (t218 : Int).toNat * 5 + 4, none⟩ = some (.int .i64 ((rd_T53 y226 t218).f4)) := hcc86 4 _ rfl; have hf86_0 : w93.frozen? ⟨go84, (t218 : Int).toNat * 5, none⟩ = false := hfr86 0; have hf86_1 : w93.frozen? ⟨go84, (t218 : Int).toNat * 5 + 1, none⟩ = false := hfr86 1; have hf86_2 : w93.frozen? ⟨go84, (t218 : Int).toNat * 5 + 2, none⟩ = false := hfr86 2; have hf86_3 : w93.frozen? ⟨go84, (t218 : Int).toNat * 5 + 3, none⟩ = false := hfr86 3; have hf86_4 : w93.frozen? ⟨go84, (t218 : Int).toNat * 5 + 4, none⟩ = false := hfr86 4; clear hcl86 hcc86 hfr86 hM86; replace p86 := eq_true p86; replace q86 := eq_true q86; have HX95 := Aside0.mk (show Kd.R k53 53 w93 w.heap.size (fun _ => True) (.slice (some ⟨go84, 0, none⟩) t212.length co15) y226 from u6_14); obtain ⟨ce95, hcl95, hM95, hcc95, hfr95⟩ := Kd.R_elem HX95.out z53 (t218 : Int) (of_decide_eq_true u6_0) (by have h_ : (t218 : Int) < ((t212.length : Int) : Int) := of_decide_eq_true u6_0; first | exact h_ | (have e_ := (Kd.R_reads' HO_216000.out).1; omega) | simpa using h_); obtain rfl := k53_openM hM95; have HP95 := Kd.R_seg HX95.out (t218 : Int) (of_decide_eq_true u6_0) (by have h_ : (t218 : Int) < ((t212.length : Int) : Int) := of_decide_eq_true u6_0; first | exact h_ | (have e_ := (Kd.R_reads' HO_216000.out).1; omega) | simpa using h_) (seg := [.int .u64 (IntKind.u64.wrap (((rd_T53 y226 t218).f1) + a3))]) (j := 1) hcl95 hcc95 (show 2 ≤ 5 from by decide) (x' := (⟨(rd_T53 y226 t218).f0, IntKind.u64.wrap (((rd_T53 y226 t218).f1) + a3), (rd_T53 y226 t218).f2, (rd_T53 y226 t218).f3, (rd_T53 y226 t218).f4⟩ : S53)) (k53_mkM _ _ _ (⟨(rd_T53 y226 t218).f0, IntKind.u64.wrap (((rd_T53 y226 t218).f1) + a3), (rd_T53 y226 t218).f2, (rd_T53 y226 t218).f3, (rd_T53 y226 t218).f4⟩ : S53) ) (fun _ hk => hk); have hx95_1 := hcc95 1 _ rfl; (try simp only [show (k53).sz = 5 from rfl, Nat.mul_one, Nat.add_zero] at hx95_1); have hf95_1 := hfr95 1; (try simp only [show (k53).sz = 5 from rfl, Nat.mul_one, Nat.add_zero] at hf95_1); clear hcl95 hcc95 hfr95 hM95) | ((with_reducible refine gate_store (t := 33) (p := 106) rfl ?_); refine store_event (t := 33) (p := 106) (v := ?vo_w96) (w1 := (w93.setCell ⟨go84, (t218 : Int).toNat * 5 + 1, none⟩ (.int .u64 (IntKind.u64.wrap (((rd_T53 y226 t218).f1) + a3))))) ?hg ?ho ?hn ?hr ?_; (case ho => rfl); (case hg => rfl); (case hn => rfl); (case hr => first | (go_simp; done) | (go_simp; rfl)); intro w96 hw; have hg : w93.grownBy w96 (some go84) := (by rw [hw]; exact HP95.2); have hp_ : Kd.R k53 53 w96 w.heap.size (fun _ => True) (.slice (some ⟨go84, 0, none⟩) t212.length co15) y228 := (by rw [hw, Ny228.out]; exact HP95.1); clear HP95; have n0_ := Aside0.mk (hp_); have n1_ := Aside0.mk (blk_grown (g := gb210) (o := .cells #[.slice (some ad223) l0_0.length c0_0] 29 (0, 0)) u6_2 hg (Kd.R_ne HO_216000.out BK210.out (by decide))); have n2_ := Aside0.mk (blk_grown (g := gb211) (o := .cells #[.slice none 0 0] 29 (0, 0)) u6_3 hg (Kd.R_ne HO_216000.out BK211.out (by decide))); have n3_ := Aside0.mk (blk_grown (g := gb215) (o := .cells #[.slice (some ⟨go84, 0, none⟩) t212.length co15] 29 (0, 0)) u6_8 hg (Kd.R_ne HO_216000.out BK215.out (by decide))); have n4_ := Aside0.mk ((by rw [hw]; exact below_set (HB.out) GB84.out : Below w.heap.size w w96)); clear HO_216000; clear BK210; clear BK211; clear BK215; clear HB; have HO_216000 := n0_; have BK210 := n1_; have BK211 := n2_; have BK215 := n3_; have HB := n4_; clear n0_ n1_ n2_ n3_ n4_; clear hg hw hp_; have hcz97_0 : w96.cell? ⟨gb215, 0, none⟩ = some (.slice (some ⟨go84, 0, none⟩) t212.length co15) := (blk_cell BK215.out 0).trans rfl; have hfz97_0 := blk_frozen BK215.out 0; have hcz98_0 : w96.cell? ⟨gb211, 0, none⟩ = some (.slice none 0 0) := (blk_cell BK211.out 0).trans rfl; have hfz98_0 := blk_frozen BK211.out 0))
                                    refine bodyPost_ret (results_ct rfl _ _ gb211 29 #[.slice (some ⟨go84, 0, none⟩) t212.length co15] (0, 0) _ rfl u6_1 Try.underlying29 rfl (by kernel_rfl)) rfl ?_
                                    exact ⟨_, by first | rfl | (simp [errW_none, errW_some] <;> rfl) | (simp [*, errW_none, errW_some] <;> rfl), by (with_reducible repeat (first | apply Kd.R_alloc | apply Kd.R_drewN | apply Kd.R_drew)); exact Kd.R_mono (Kd.R_far (p := ⟨gb211, 0, none⟩) (Kd.R_types HO_216000.out BK211.out (by decide)) (fun _ hk => hk.2) (.slice (some ⟨go84, 0, none⟩) t212.length co15)) (fun _ hk => trivial), by repeat (first | (with_reducible first | exact HB.out | apply below_alloc | apply pw_below_drewN | apply below_drew1 | refine below_set ?_ GE210.out | refine below_set ?_ GE211.out | refine below_set ?_ GE215.out) | exact HB.out)⟩
                                  · rw [if_neg c85] at H
                                    exact absurd H (by simp)
                                · rw [if_neg c83] at H
                                  exact absurd H (by simp)
                            · rw [if_neg c75] at H
                              exact absurd H (by simp)
                          · rw [if_neg c74] at H
                            exact absurd H (by simp)
                      · rw [if_neg c66] at H
                        exact absurd H (by simp)
                    · rw [if_neg c65] at H
                      exact absurd H (by simp)

/-! ### laws_markAccountS: function 58 -/
def laws_markAccountS.l0 : Nat → List (S53) → Int → Int → Option (Int × (List (S53)))
  | 0, _, _, _ => none
  | k + 1, x0, x1, x5 => if x5 < (x0.length : Int) then (if 0 ≤ x5 then ((some (x0.set (x5 : Int).toNat (⟨IntKind.u64.wrap (x1), (rd_T53 x0 x5).f1, (rd_T53 x0 x5).f2, (rd_T53 x0 x5).f3, (rd_T53 x0 x5).f4⟩ : S53) : List (S53))).bind fun y229 => ((some (y229.set (x5 : Int).toNat (⟨(rd_T53 y229 x5).f0, IntKind.u64.wrap (wrap64 (x1 + 1)), (rd_T53 y229 x5).f2, (rd_T53 y229 x5).f3, (rd_T53 y229 x5).f4⟩ : S53) : List (S53))).bind fun y230 => ((some (y230.set (x5 : Int).toNat (⟨(rd_T53 y230 x5).f0, (rd_T53 y230 x5).f1, IntKind.u64.wrap (wrap64 ((wrap64 (x1 + 1)) + 1)), (rd_T53 y230 x5).f3, (rd_T53 y230 x5).f4⟩ : S53) : List (S53))).bind fun y231 => ((some (y231.set (x5 : Int).toNat (⟨(rd_T53 y231 x5).f0, (rd_T53 y231 x5).f1, (rd_T53 y231 x5).f2, IntKind.u64.wrap (wrap64 ((wrap64 ((wrap64 (x1 + 1)) + 1)) + 1)), (rd_T53 y231 x5).f4⟩ : S53) : List (S53))).bind fun y232 => (laws_markAccountS.l0 k (y232.set (x5 : Int).toNat (⟨(rd_T53 y232 x5).f0, (rd_T53 y232 x5).f1, (rd_T53 y232 x5).f2, (rd_T53 y232 x5).f3, wrap64 ((wrap64 ((wrap64 ((wrap64 (x1 + 1)) + 1)) + 1)) + 1)⟩ : S53)) (wrap64 ((wrap64 ((wrap64 ((wrap64 ((wrap64 (x1 + 1)) + 1)) + 1)) + 1)) + 1)) (wrap64 (x5 + 1))))))) else (none)) else (some (x1, x0))
def laws_markAccountS.f (k : Nat) (l0 : List (S53)) (a1 : Int) : Option (Int × (List (S53))) := laws_markAccountS.l0 k l0 a1 0
theorem laws_markAccountS.mono_l : ∀ k, (∀ y0 y1 y2, LeO (laws_markAccountS.l0 k y0 y1 y2) (laws_markAccountS.l0 (k + 1) y0 y1 y2))
  | 0 => fun _ _ _ r h => by simp [laws_markAccountS.l0] at h
  | k + 1 => by
    have ih0 := laws_markAccountS.mono_l k
    · intro y0 y1 y2
      unfold laws_markAccountS.l0
      repeat' first
      | (with_reducible exact ih0 _ _ _)
      | (with_reducible exact LeO.refl _)
      | (with_reducible exact LeO.none _)
      | (with_reducible refine LeO.ite ?_ ?_)
      | (with_reducible refine LeO.bind ?_ (fun _ => ?_))
      | exact ih0 _ _ _
      | exact LeO.none _
      | refine LeO.ite ?_ ?_
      | refine LeO.bind ?_ (fun _ => ?_)
theorem laws_markAccountS.mono : ∀ a0 a1 k, LeO (laws_markAccountS.f k a0 a1) (laws_markAccountS.f (k + 1) a0 a1) := by
  intro a0 a1 k
  have ih0 := laws_markAccountS.mono_l k
  unfold laws_markAccountS.f
  repeat' first
      | (with_reducible exact ih0 _ _ _)
      | (with_reducible exact LeO.refl _)
      | (with_reducible exact LeO.none _)
      | (with_reducible refine LeO.ite ?_ ?_)
      | (with_reducible refine LeO.bind ?_ (fun _ => ?_))
      | exact ih0 _ _ _
      | exact LeO.none _
      | refine LeO.ite ?_ ?_
      | refine LeO.bind ?_ (fun _ => ?_)
set_option maxHeartbeats 8000000 in
set_option maxRecDepth 100000 in
theorem laws_markAccountS.calls (k : Nat) (P0_ : Nat → Prop) (u9000_ : Value) (l0 : List (S53)) (a1 : Int) (r1 : Int) (r2 : List (S53)) (w0 w : World) (hB : Below w0.heap.size w0 w) (ho0 : Kd.R k53 53 w w0.heap.size P0_ u9000_ l0) (h : laws_markAccountS.f k l0 a1 = some (r1, r2)) :
    Calls Try.prog 58 #[u9000_, .int .i64 a1] w fun e w' => e = .returned (.int .i64 r1) ∧ Kd.R k53 53 w' w0.heap.size (fun k_ => (P0_ k_ ∨ w.heap.size ≤ k_)) u9000_ r2 ∧ Below w0.heap.size w0 w' ∧ Kept w w' (fun k_ => P0_ k_) := by
  have HO0 := Aside0.mk (show Kd.R k53 53 w w0.heap.size (fun k_ => (P0_ k_ ∨ w.heap.size ≤ k_)) u9000_ l0 from Kd.R_mono ho0 (fun k_ hk => (.inl hk)))
  have HK := Aside0.mk (Kept.refl w (fun k_ => P0_ k_))
  have HW0 := Aside0.mk hB.size
  have HB := Aside0.mk hB
  clear hB
  have H : (laws_markAccountS.l0 k l0 a1 0) = some (r1, r2) := h
  clear h
  have H' := Aside0.mk H
  clear H
  go_enter Try.func58, Try.ntmps58
  go_wp2
  go_loopg [1, 5] k (fun kq v1 v5 w' => ∃ (x0_1 : List (S53)) (x1_1 : Int) (x5_1 : Int), v1 = .int .i64 x1_1 ∧ v5 = .int .i64 x5_1 ∧ Aside0 (laws_markAccountS.l0 kq x0_1 x1_1 x5_1 = some (r1, r2)) ∧ Aside0 (kq ≤ k) ∧ Aside0 (Kd.R k53 53 w' w0.heap.size (fun k_ => (P0_ k_ ∨ w.heap.size ≤ k_)) u9000_ x0_1) ∧ Aside0 (Kept w w' (fun k_ => P0_ k_)) ∧ Aside0 (Below w0.heap.size w0 w'))
  case atStart => exact ⟨(l0), (a1), (0), u6_10, u6_10, H', ⟨Nat.le_refl _⟩, ⟨by (with_reducible repeat (first | apply Kd.R_alloc | apply Kd.R_drewN | apply Kd.R_drew)); exact HO0.out⟩, ⟨by repeat (first | (with_reducible first | exact HK.out | apply Kept.alloc | apply Kept.drewN | apply Kept.drew) | exact HK.out)⟩, ⟨by repeat (first | (with_reducible first | exact HB.out | apply below_alloc | apply pw_below_drewN | apply below_drew1) | exact HB.out)⟩⟩
  case round =>
    clear H'
    try clear p2
    obtain ⟨x0_1, x1_1, x5_1, rfl, rfl, HA, HK1, HO_0, HK, HB⟩ := hrel
    cases gk with
    | zero => exact absurd HA.out (by simp [laws_markAccountS.l0])
    | succ k1 =>
      have H := HA.out
      clear HA
      simp only [laws_markAccountS.l0] at H
      by_cases c3 : x5_1 < (x0_1.length : Int)
      · rw [if_pos c3] at H
        have c3b0 : decide (x5_1 < (x0_1.length : Int)) = true := decide_eq_true c3
        clear c3
        by_cases c4 : 0 ≤ x5_1
        · rw [if_pos c4] at H
          have c4b0 : decide (0 ≤ x5_1) = true := decide_eq_true c4
          clear c4
          obtain ⟨y229, hy229⟩ : ∃ y_ : List (S53), y_ = (x0_1.set (x5_1 : Int).toNat (⟨IntKind.u64.wrap (x1_1), (rd_T53 x0_1 x5_1).f1, (rd_T53 x0_1 x5_1).f2, (rd_T53 x0_1 x5_1).f3, (rd_T53 x0_1 x5_1).f4⟩ : S53)) := ⟨_, rfl⟩
          replace H : ((some (y229.set (x5_1 : Int).toNat (⟨(rd_T53 y229 x5_1).f0, IntKind.u64.wrap (wrap64 (x1_1 + 1)), (rd_T53 y229 x5_1).f2, (rd_T53 y229 x5_1).f3, (rd_T53 y229 x5_1).f4⟩ : S53) : List (S53))).bind fun y230 => ((some (y230.set (x5_1 : Int).toNat (⟨(rd_T53 y230 x5_1).f0, (rd_T53 y230 x5_1).f1, IntKind.u64.wrap (wrap64 ((wrap64 (x1_1 + 1)) + 1)), (rd_T53 y230 x5_1).f3, (rd_T53 y230 x5_1).f4⟩ : S53) : List (S53))).bind fun y231 => ((some (y231.set (x5_1 : Int).toNat (⟨(rd_T53 y231 x5_1).f0, (rd_T53 y231 x5_1).f1, (rd_T53 y231 x5_1).f2, IntKind.u64.wrap (wrap64 ((wrap64 ((wrap64 (x1_1 + 1)) + 1)) + 1)), (rd_T53 y231 x5_1).f4⟩ : S53) : List (S53))).bind fun y232 => (laws_markAccountS.l0 k1 (y232.set (x5_1 : Int).toNat (⟨(rd_T53 y232 x5_1).f0, (rd_T53 y232 x5_1).f1, (rd_T53 y232 x5_1).f2, (rd_T53 y232 x5_1).f3, wrap64 ((wrap64 ((wrap64 ((wrap64 (x1_1 + 1)) + 1)) + 1)) + 1)⟩ : S53)) (wrap64 ((wrap64 ((wrap64 ((wrap64 ((wrap64 (x1_1 + 1)) + 1)) + 1)) + 1)) + 1)) (wrap64 (x5_1 + 1)))))) = some (r1, r2) := by first | (rw [hy229]; with_reducible exact H) | (have H2_ := (Option.bind_some _ _).symm.trans H; rw [hy229]; with_reducible exact H2_) | (have H2_ := (Option.bind_some _ _).symm.trans H; with_reducible exact H2_) | with_reducible exact H | (rw [hy229]; exact H) | exact H
          have Ny229 := Aside0.mk hy229
          clear hy229
          obtain ⟨y230, hy230⟩ : ∃ y_ : List (S53), y_ = (y229.set (x5_1 : Int).toNat (⟨(rd_T53 y229 x5_1).f0, IntKind.u64.wrap (wrap64 (x1_1 + 1)), (rd_T53 y229 x5_1).f2, (rd_T53 y229 x5_1).f3, (rd_T53 y229 x5_1).f4⟩ : S53)) := ⟨_, rfl⟩
          replace H : ((some (y230.set (x5_1 : Int).toNat (⟨(rd_T53 y230 x5_1).f0, (rd_T53 y230 x5_1).f1, IntKind.u64.wrap (wrap64 ((wrap64 (x1_1 + 1)) + 1)), (rd_T53 y230 x5_1).f3, (rd_T53 y230 x5_1).f4⟩ : S53) : List (S53))).bind fun y231 => ((some (y231.set (x5_1 : Int).toNat (⟨(rd_T53 y231 x5_1).f0, (rd_T53 y231 x5_1).f1, (rd_T53 y231 x5_1).f2, IntKind.u64.wrap (wrap64 ((wrap64 ((wrap64 (x1_1 + 1)) + 1)) + 1)), (rd_T53 y231 x5_1).f4⟩ : S53) : List (S53))).bind fun y232 => (laws_markAccountS.l0 k1 (y232.set (x5_1 : Int).toNat (⟨(rd_T53 y232 x5_1).f0, (rd_T53 y232 x5_1).f1, (rd_T53 y232 x5_1).f2, (rd_T53 y232 x5_1).f3, wrap64 ((wrap64 ((wrap64 ((wrap64 (x1_1 + 1)) + 1)) + 1)) + 1)⟩ : S53)) (wrap64 ((wrap64 ((wrap64 ((wrap64 ((wrap64 (x1_1 + 1)) + 1)) + 1)) + 1)) + 1)) (wrap64 (x5_1 + 1))))) = some (r1, r2) := by first | (rw [hy230]; with_reducible exact H) | (have H2_ := (Option.bind_some _ _).symm.trans H; rw [hy230]; with_reducible exact H2_) | (have H2_ := (Option.bind_some _ _).symm.trans H; with_reducible exact H2_) | with_reducible exact H | (rw [hy230]; exact H) | exact H
          have Ny230 := Aside0.mk hy230
          clear hy230
          obtain ⟨y231, hy231⟩ : ∃ y_ : List (S53), y_ = (y230.set (x5_1 : Int).toNat (⟨(rd_T53 y230 x5_1).f0, (rd_T53 y230 x5_1).f1, IntKind.u64.wrap (wrap64 ((wrap64 (x1_1 + 1)) + 1)), (rd_T53 y230 x5_1).f3, (rd_T53 y230 x5_1).f4⟩ : S53)) := ⟨_, rfl⟩
          replace H : ((some (y231.set (x5_1 : Int).toNat (⟨(rd_T53 y231 x5_1).f0, (rd_T53 y231 x5_1).f1, (rd_T53 y231 x5_1).f2, IntKind.u64.wrap (wrap64 ((wrap64 ((wrap64 (x1_1 + 1)) + 1)) + 1)), (rd_T53 y231 x5_1).f4⟩ : S53) : List (S53))).bind fun y232 => (laws_markAccountS.l0 k1 (y232.set (x5_1 : Int).toNat (⟨(rd_T53 y232 x5_1).f0, (rd_T53 y232 x5_1).f1, (rd_T53 y232 x5_1).f2, (rd_T53 y232 x5_1).f3, wrap64 ((wrap64 ((wrap64 ((wrap64 (x1_1 + 1)) + 1)) + 1)) + 1)⟩ : S53)) (wrap64 ((wrap64 ((wrap64 ((wrap64 ((wrap64 (x1_1 + 1)) + 1)) + 1)) + 1)) + 1)) (wrap64 (x5_1 + 1)))) = some (r1, r2) := by first | (rw [hy231]; with_reducible exact H) | (have H2_ := (Option.bind_some _ _).symm.trans H; rw [hy231]; with_reducible exact H2_) | (have H2_ := (Option.bind_some _ _).symm.trans H; with_reducible exact H2_) | with_reducible exact H | (rw [hy231]; exact H) | exact H
          have Ny231 := Aside0.mk hy231
          clear hy231
          obtain ⟨y232, hy232⟩ : ∃ y_ : List (S53), y_ = (y231.set (x5_1 : Int).toNat (⟨(rd_T53 y231 x5_1).f0, (rd_T53 y231 x5_1).f1, (rd_T53 y231 x5_1).f2, IntKind.u64.wrap (wrap64 ((wrap64 ((wrap64 (x1_1 + 1)) + 1)) + 1)), (rd_T53 y231 x5_1).f4⟩ : S53)) := ⟨_, rfl⟩
          replace H : (laws_markAccountS.l0 k1 (y232.set (x5_1 : Int).toNat (⟨(rd_T53 y232 x5_1).f0, (rd_T53 y232 x5_1).f1, (rd_T53 y232 x5_1).f2, (rd_T53 y232 x5_1).f3, wrap64 ((wrap64 ((wrap64 ((wrap64 (x1_1 + 1)) + 1)) + 1)) + 1)⟩ : S53)) (wrap64 ((wrap64 ((wrap64 ((wrap64 ((wrap64 (x1_1 + 1)) + 1)) + 1)) + 1)) + 1)) (wrap64 (x5_1 + 1))) = some (r1, r2) := by first | (rw [hy232]; with_reducible exact H) | (have H2_ := (Option.bind_some _ _).symm.trans H; rw [hy232]; with_reducible exact H2_) | (have H2_ := (Option.bind_some _ _).symm.trans H; with_reducible exact H2_) | with_reducible exact H | (rw [hy232]; exact H) | exact H
          have Ny232 := Aside0.mk hy232
          clear hy232
          obtain ⟨y233, hy233⟩ : ∃ y_ : List (S53), y_ = (y232.set (x5_1 : Int).toNat (⟨(rd_T53 y232 x5_1).f0, (rd_T53 y232 x5_1).f1, (rd_T53 y232 x5_1).f2, (rd_T53 y232 x5_1).f3, wrap64 ((wrap64 ((wrap64 ((wrap64 (x1_1 + 1)) + 1)) + 1)) + 1)⟩ : S53)) := ⟨_, rfl⟩
          replace H : (laws_markAccountS.l0 k1 y233 (wrap64 ((wrap64 ((wrap64 ((wrap64 ((wrap64 (x1_1 + 1)) + 1)) + 1)) + 1)) + 1)) (wrap64 (x5_1 + 1))) = some (r1, r2) := by first | (rw [hy233]; with_reducible exact H) | (have H2_ := (Option.bind_some _ _).symm.trans H; rw [hy233]; with_reducible exact H2_) | (have H2_ := (Option.bind_some _ _).symm.trans H; with_reducible exact H2_) | with_reducible exact H | (rw [hy233]; exact H) | exact H
          have Ny233 := Aside0.mk hy233
          clear hy233
          have H' := Aside0.mk H
          clear H
          obtain ⟨Ao10, co10, eo10⟩ := Kd.R_slice HO_0.out
          subst eo10
          have p5 : 0 ≤ (x5_1 : Int) := of_decide_eq_true u6_0
          have q5 : (x5_1 : Int) < ((x0_1.length : Int) : Int) := of_decide_eq_true u6_0
          obtain ⟨go5, co5, eo5, gb5, gl5, cl5, HG5⟩ := Kd.R_form HO_0.out (by omega)
          (first | cases eo5 | (injection eo5 with ea_ en_ ec_; (first | subst ea_ | (injection ea_ with ea_; subst ea_)); subst ec_; clear en_))
          have GB5 := Aside0.mk gb5
          have GG5 := Aside0.mk HG5
          clear gb5 gl5 HG5
          have HMgo5 := Aside0.mk (show (P0_ go5 ∨ w.heap.size ≤ go5) from (HO_0.out.1 _ rfl))
          obtain ⟨ce5, hcl5, hM5, hcc5, hfr5⟩ := Kd.R_elem HO_0.out z53 (x5_1 : Int) p5 q5
          obtain rfl := k53_openM hM5
          have hx5_0 : wr.cell? ⟨go5, (x5_1 : Int).toNat * 5, none⟩ = some (.int .u64 ((rd_T53 x0_1 x5_1).f0)) := hcc5 0 _ rfl
          have hx5_1 : wr.cell? ⟨go5, (x5_1 : Int).toNat * 5 + 1, none⟩ = some (.int .u64 ((rd_T53 x0_1 x5_1).f1)) := hcc5 1 _ rfl
          have hx5_2 : wr.cell? ⟨go5, (x5_1 : Int).toNat * 5 + 2, none⟩ = some (.int .u64 ((rd_T53 x0_1 x5_1).f2)) := hcc5 2 _ rfl
          have hx5_3 : wr.cell? ⟨go5, (x5_1 : Int).toNat * 5 + 3, none⟩ = some (.int .u64 ((rd_T53 x0_1 x5_1).f3)) := hcc5 3 _ rfl
          have hx5_4 : wr.cell? ⟨go5, (x5_1 : Int).toNat * 5 + 4, none⟩ = some (.int .i64 ((rd_T53 x0_1 x5_1).f4)) := hcc5 4 _ rfl
          have hf5_0 : wr.frozen? ⟨go5, (x5_1 : Int).toNat * 5, none⟩ = false := hfr5 0
          have hf5_1 : wr.frozen? ⟨go5, (x5_1 : Int).toNat * 5 + 1, none⟩ = false := hfr5 1
          have hf5_2 : wr.frozen? ⟨go5, (x5_1 : Int).toNat * 5 + 2, none⟩ = false := hfr5 2
          have hf5_3 : wr.frozen? ⟨go5, (x5_1 : Int).toNat * 5 + 3, none⟩ = false := hfr5 3
          have hf5_4 : wr.frozen? ⟨go5, (x5_1 : Int).toNat * 5 + 4, none⟩ = false := hfr5 4
          clear hcl5 hcc5 hfr5 hM5
          replace p5 := eq_true p5
          replace q5 := eq_true q5
          have HX11 := Aside0.mk (show Kd.R k53 53 wr w0.heap.size (fun k_ => (P0_ k_ ∨ w.heap.size ≤ k_)) (.slice (some ⟨go5, 0, none⟩) x0_1.length co10) x0_1 from u6_9)
          obtain ⟨ce11, hcl11, hM11, hcc11, hfr11⟩ := Kd.R_elem HX11.out z53 (x5_1 : Int) (of_decide_eq_true u6_0) (by have h_ : (x5_1 : Int) < ((x0_1.length : Int) : Int) := of_decide_eq_true u6_0; first | exact h_ | (have e_ := (Kd.R_reads' HO_0.out).1; omega) | simpa using h_)
          obtain rfl := k53_openM hM11
          have HP11 := Kd.R_seg HX11.out (x5_1 : Int) (of_decide_eq_true u6_0) (by have h_ : (x5_1 : Int) < ((x0_1.length : Int) : Int) := of_decide_eq_true u6_0; first | exact h_ | (have e_ := (Kd.R_reads' HO_0.out).1; omega) | simpa using h_) (seg := [.int .u64 (IntKind.u64.wrap (x1_1))]) (j := 0) hcl11 hcc11 (show 1 ≤ 5 from by decide) (x' := (⟨IntKind.u64.wrap (x1_1), (rd_T53 x0_1 x5_1).f1, (rd_T53 x0_1 x5_1).f2, (rd_T53 x0_1 x5_1).f3, (rd_T53 x0_1 x5_1).f4⟩ : S53)) (k53_mkM _ _ _ (⟨IntKind.u64.wrap (x1_1), (rd_T53 x0_1 x5_1).f1, (rd_T53 x0_1 x5_1).f2, (rd_T53 x0_1 x5_1).f3, (rd_T53 x0_1 x5_1).f4⟩ : S53) ) (fun _ hk => hk)
          have hx11_0 := hcc11 0 _ rfl
          (try simp only [show (k53).sz = 5 from rfl, Nat.mul_one, Nat.add_zero] at hx11_0)
          have hf11_0 := hfr11 0
          (try simp only [show (k53).sz = 5 from rfl, Nat.mul_one, Nat.add_zero] at hf11_0)
          clear hcl11 hcc11 hfr11 hM11
          go_wp2_with (first | ((with_reducible refine gate_store (t := 33) (p := 17) rfl ?_); refine store_event (t := 33) (p := 17) (v := ?vo_w12) (w1 := (wr.setCell ⟨go5, (x5_1 : Int).toNat * 5, none⟩ (.int .u64 (IntKind.u64.wrap (x1_1))))) ?hg ?ho ?hn ?hr ?_; (case ho => rfl); (case hg => rfl); (case hn => rfl); (case hr => first | (go_simp; done) | (go_simp; rfl)); intro w12 hw; have hg : wr.grownBy w12 (some go5) := (by rw [hw]; exact HP11.2); have hp_ : Kd.R k53 53 w12 w0.heap.size (fun k_ => (P0_ k_ ∨ w.heap.size ≤ k_)) (.slice (some ⟨go5, 0, none⟩) x0_1.length co10) y229 := (by rw [hw, Ny229.out]; exact HP11.1); clear HP11; have n0_ := Aside0.mk (hp_); have n1_ := Aside0.mk ((by rw [hw]; exact below_set (HB.out) GB5.out : Below w0.heap.size w0 w12)); have n2_ := Aside0.mk (Kept.of_grown (S := (fun k_ => P0_ k_)) hg u6_7 (fun k_ e_ => (HO_0.out.1 k_ e_))); clear HO_0; clear HB; clear HK; have HO_0 := n0_; have HB := n1_; have HK := n2_; clear n0_ n1_ n2_; clear hg hw hp_; have p6 : 0 ≤ (x5_1 : Int) := of_decide_eq_true u6_0; have q6 : (x5_1 : Int) < ((x0_1.length : Int) : Int) := of_decide_eq_true u6_0; obtain ⟨ce6, hcl6, hM6, hcc6, hfr6⟩ := Kd.R_elem HO_0.out z53 (x5_1 : Int) p6 q6; obtain rfl := k53_openM hM6; have hx6_0 : w12.cell? ⟨go5, (x5_1 : Int).toNat * 5, none⟩ = some (.int .u64 ((rd_T53 y229 x5_1).f0)) := hcc6 0 _ rfl; have hx6_1 : w12.cell? ⟨go5, (x5_1 : Int).toNat * 5 + 1, none⟩ = some (.int .u64 ((rd_T53 y229 x5_1).f1)) := hcc6 1 _ rfl; have hx6_2 : w12.cell? ⟨go5, (x5_1 : Int).toNat * 5 + 2, none⟩ = some (.int .u64 ((rd_T53 y229 x5_1).f2)) := hcc6 2 _ rfl; have hx6_3 : w12.cell? ⟨go5, (x5_1 : Int).toNat * 5 + 3, none⟩ = some (.int .u64 ((rd_T53 y229 x5_1).f3)) := hcc6 3 _ rfl; have hx6_4 : w12.cell? ⟨go5, (x5_1 : Int).toNat * 5 + 4, none⟩ = some (.int .i64 ((rd_T53 y229 x5_1).f4)) := hcc6 4 _ rfl; have hf6_0 : w12.frozen? ⟨go5, (x5_1 : Int).toNat * 5, none⟩ = false := hfr6 0; have hf6_1 : w12.frozen? ⟨go5, (x5_1 : Int).toNat * 5 + 1, none⟩ = false := hfr6 1; have hf6_2 : w12.frozen? ⟨go5, (x5_1 : Int).toNat * 5 + 2, none⟩ = false := hfr6 2; have hf6_3 : w12.frozen? ⟨go5, (x5_1 : Int).toNat * 5 + 3, none⟩ = false := hfr6 3; have hf6_4 : w12.frozen? ⟨go5, (x5_1 : Int).toNat * 5 + 4, none⟩ = false := hfr6 4; clear hcl6 hcc6 hfr6 hM6; replace p6 := eq_true p6; replace q6 := eq_true q6; have HX13 := Aside0.mk (show Kd.R k53 53 w12 w0.heap.size (fun k_ => (P0_ k_ ∨ w.heap.size ≤ k_)) (.slice (some ⟨go5, 0, none⟩) x0_1.length co10) y229 from u6_9); obtain ⟨ce13, hcl13, hM13, hcc13, hfr13⟩ := Kd.R_elem HX13.out z53 (x5_1 : Int) (of_decide_eq_true u6_0) (by have h_ : (x5_1 : Int) < ((x0_1.length : Int) : Int) := of_decide_eq_true u6_0; first | exact h_ | (have e_ := (Kd.R_reads' HO_0.out).1; omega) | simpa using h_); obtain rfl := k53_openM hM13; have HP13 := Kd.R_seg HX13.out (x5_1 : Int) (of_decide_eq_true u6_0) (by have h_ : (x5_1 : Int) < ((x0_1.length : Int) : Int) := of_decide_eq_true u6_0; first | exact h_ | (have e_ := (Kd.R_reads' HO_0.out).1; omega) | simpa using h_) (seg := [.int .u64 (IntKind.u64.wrap (wrap64 (x1_1 + 1)))]) (j := 1) hcl13 hcc13 (show 2 ≤ 5 from by decide) (x' := (⟨(rd_T53 y229 x5_1).f0, IntKind.u64.wrap (wrap64 (x1_1 + 1)), (rd_T53 y229 x5_1).f2, (rd_T53 y229 x5_1).f3, (rd_T53 y229 x5_1).f4⟩ : S53)) (k53_mkM _ _ _ (⟨(rd_T53 y229 x5_1).f0, IntKind.u64.wrap (wrap64 (x1_1 + 1)), (rd_T53 y229 x5_1).f2, (rd_T53 y229 x5_1).f3, (rd_T53 y229 x5_1).f4⟩ : S53) ) (fun _ hk => hk); have hx13_1 := hcc13 1 _ rfl; (try simp only [show (k53).sz = 5 from rfl, Nat.mul_one, Nat.add_zero] at hx13_1); have hf13_1 := hfr13 1; (try simp only [show (k53).sz = 5 from rfl, Nat.mul_one, Nat.add_zero] at hf13_1); clear hcl13 hcc13 hfr13 hM13) | ((with_reducible refine gate_store (t := 33) (p := 25) rfl ?_); refine store_event (t := 33) (p := 25) (v := ?vo_w14) (w1 := (w12.setCell ⟨go5, (x5_1 : Int).toNat * 5 + 1, none⟩ (.int .u64 (IntKind.u64.wrap (wrap64 (x1_1 + 1)))))) ?hg ?ho ?hn ?hr ?_; (case ho => rfl); (case hg => rfl); (case hn => rfl); (case hr => first | (go_simp; done) | (go_simp; rfl)); intro w14 hw; have hg : w12.grownBy w14 (some go5) := (by rw [hw]; exact HP13.2); have hp_ : Kd.R k53 53 w14 w0.heap.size (fun k_ => (P0_ k_ ∨ w.heap.size ≤ k_)) (.slice (some ⟨go5, 0, none⟩) x0_1.length co10) y230 := (by rw [hw, Ny230.out]; exact HP13.1); clear HP13; have n0_ := Aside0.mk (hp_); have n1_ := Aside0.mk ((by rw [hw]; exact below_set (HB.out) GB5.out : Below w0.heap.size w0 w14)); have n2_ := Aside0.mk (Kept.of_grown (S := (fun k_ => P0_ k_)) hg u6_7 (fun k_ e_ => (HO_0.out.1 k_ e_))); clear HO_0; clear HB; clear HK; have HO_0 := n0_; have HB := n1_; have HK := n2_; clear n0_ n1_ n2_; clear hg hw hp_; have p7 : 0 ≤ (x5_1 : Int) := of_decide_eq_true u6_0; have q7 : (x5_1 : Int) < ((x0_1.length : Int) : Int) := of_decide_eq_true u6_0; obtain ⟨ce7, hcl7, hM7, hcc7, hfr7⟩ := Kd.R_elem HO_0.out z53 (x5_1 : Int) p7 q7; obtain rfl := k53_openM hM7; have hx7_0 : w14.cell? ⟨go5, (x5_1 : Int).toNat * 5, none⟩ = some (.int .u64 ((rd_T53 y230 x5_1).f0)) := hcc7 0 _ rfl; have hx7_1 : w14.cell? ⟨go5, (x5_1 : Int).toNat * 5 + 1, none⟩ = some (.int .u64 ((rd_T53 y230 x5_1).f1)) := hcc7 1 _ rfl; have hx7_2 : w14.cell? ⟨go5, (x5_1 : Int).toNat * 5 + 2, none⟩ = some (.int .u64 ((rd_T53 y230 x5_1).f2)) := hcc7 2 _ rfl; have hx7_3 : w14.cell? ⟨go5, (x5_1 : Int).toNat * 5 + 3, none⟩ = some (.int .u64 ((rd_T53 y230 x5_1).f3)) := hcc7 3 _ rfl; have hx7_4 : w14.cell? ⟨go5, (x5_1 : Int).toNat * 5 + 4, none⟩ = some (.int .i64 ((rd_T53 y230 x5_1).f4)) := hcc7 4 _ rfl; have hf7_0 : w14.frozen? ⟨go5, (x5_1 : Int).toNat * 5, none⟩ = false := hfr7 0; have hf7_1 : w14.frozen? ⟨go5, (x5_1 : Int).toNat * 5 + 1, none⟩ = false := hfr7 1; have hf7_2 : w14.frozen? ⟨go5, (x5_1 : Int).toNat * 5 + 2, none⟩ = false := hfr7 2; have hf7_3 : w14.frozen? ⟨go5, (x5_1 : Int).toNat * 5 + 3, none⟩ = false := hfr7 3; have hf7_4 : w14.frozen? ⟨go5, (x5_1 : Int).toNat * 5 + 4, none⟩ = false := hfr7 4; clear hcl7 hcc7 hfr7 hM7; replace p7 := eq_true p7; replace q7 := eq_true q7; have HX15 := Aside0.mk (show Kd.R k53 53 w14 w0.heap.size (fun k_ => (P0_ k_ ∨ w.heap.size ≤ k_)) (.slice (some ⟨go5, 0, none⟩) x0_1.length co10) y230 from u6_9); obtain ⟨ce15, hcl15, hM15, hcc15, hfr15⟩ := Kd.R_elem HX15.out z53 (x5_1 : Int) (of_decide_eq_true u6_0) (by have h_ : (x5_1 : Int) < ((x0_1.length : Int) : Int) := of_decide_eq_true u6_0; first | exact h_ | (have e_ := (Kd.R_reads' HO_0.out).1; omega) | simpa using h_); obtain rfl := k53_openM hM15; have HP15 := Kd.R_seg HX15.out (x5_1 : Int) (of_decide_eq_true u6_0) (by have h_ : (x5_1 : Int) < ((x0_1.length : Int) : Int) := of_decide_eq_true u6_0; first | exact h_ | (have e_ := (Kd.R_reads' HO_0.out).1; omega) | simpa using h_) (seg := [.int .u64 (IntKind.u64.wrap (wrap64 ((wrap64 (x1_1 + 1)) + 1)))]) (j := 2) hcl15 hcc15 (show 3 ≤ 5 from by decide) (x' := (⟨(rd_T53 y230 x5_1).f0, (rd_T53 y230 x5_1).f1, IntKind.u64.wrap (wrap64 ((wrap64 (x1_1 + 1)) + 1)), (rd_T53 y230 x5_1).f3, (rd_T53 y230 x5_1).f4⟩ : S53)) (k53_mkM _ _ _ (⟨(rd_T53 y230 x5_1).f0, (rd_T53 y230 x5_1).f1, IntKind.u64.wrap (wrap64 ((wrap64 (x1_1 + 1)) + 1)), (rd_T53 y230 x5_1).f3, (rd_T53 y230 x5_1).f4⟩ : S53) ) (fun _ hk => hk); have hx15_2 := hcc15 2 _ rfl; (try simp only [show (k53).sz = 5 from rfl, Nat.mul_one, Nat.add_zero] at hx15_2); have hf15_2 := hfr15 2; (try simp only [show (k53).sz = 5 from rfl, Nat.mul_one, Nat.add_zero] at hf15_2); clear hcl15 hcc15 hfr15 hM15) | ((with_reducible refine gate_store (t := 33) (p := 33) rfl ?_); refine store_event (t := 33) (p := 33) (v := ?vo_w16) (w1 := (w14.setCell ⟨go5, (x5_1 : Int).toNat * 5 + 2, none⟩ (.int .u64 (IntKind.u64.wrap (wrap64 ((wrap64 (x1_1 + 1)) + 1)))))) ?hg ?ho ?hn ?hr ?_; (case ho => rfl); (case hg => rfl); (case hn => rfl); (case hr => first | (go_simp; done) | (go_simp; rfl)); intro w16 hw; have hg : w14.grownBy w16 (some go5) := (by rw [hw]; exact HP15.2); have hp_ : Kd.R k53 53 w16 w0.heap.size (fun k_ => (P0_ k_ ∨ w.heap.size ≤ k_)) (.slice (some ⟨go5, 0, none⟩) x0_1.length co10) y231 := (by rw [hw, Ny231.out]; exact HP15.1); clear HP15; have n0_ := Aside0.mk (hp_); have n1_ := Aside0.mk ((by rw [hw]; exact below_set (HB.out) GB5.out : Below w0.heap.size w0 w16)); have n2_ := Aside0.mk (Kept.of_grown (S := (fun k_ => P0_ k_)) hg u6_7 (fun k_ e_ => (HO_0.out.1 k_ e_))); clear HO_0; clear HB; clear HK; have HO_0 := n0_; have HB := n1_; have HK := n2_; clear n0_ n1_ n2_; clear hg hw hp_; have p8 : 0 ≤ (x5_1 : Int) := of_decide_eq_true u6_0; have q8 : (x5_1 : Int) < ((x0_1.length : Int) : Int) := of_decide_eq_true u6_0; obtain ⟨ce8, hcl8, hM8, hcc8, hfr8⟩ := Kd.R_elem HO_0.out z53 (x5_1 : Int) p8 q8; obtain rfl := k53_openM hM8; have hx8_0 : w16.cell? ⟨go5, (x5_1 : Int).toNat * 5, none⟩ = some (.int .u64 ((rd_T53 y231 x5_1).f0)) := hcc8 0 _ rfl; have hx8_1 : w16.cell? ⟨go5, (x5_1 : Int).toNat * 5 + 1, none⟩ = some (.int .u64 ((rd_T53 y231 x5_1).f1)) := hcc8 1 _ rfl; have hx8_2 : w16.cell? ⟨go5, (x5_1 : Int).toNat * 5 + 2, none⟩ = some (.int .u64 ((rd_T53 y231 x5_1).f2)) := hcc8 2 _ rfl; have hx8_3 : w16.cell? ⟨go5, (x5_1 : Int).toNat * 5 + 3, none⟩ = some (.int .u64 ((rd_T53 y231 x5_1).f3)) := hcc8 3 _ rfl; have hx8_4 : w16.cell? ⟨go5, (x5_1 : Int).toNat * 5 + 4, none⟩ = some (.int .i64 ((rd_T53 y231 x5_1).f4)) := hcc8 4 _ rfl; have hf8_0 : w16.frozen? ⟨go5, (x5_1 : Int).toNat * 5, none⟩ = false := hfr8 0; have hf8_1 : w16.frozen? ⟨go5, (x5_1 : Int).toNat * 5 + 1, none⟩ = false := hfr8 1; have hf8_2 : w16.frozen? ⟨go5, (x5_1 : Int).toNat * 5 + 2, none⟩ = false := hfr8 2; have hf8_3 : w16.frozen? ⟨go5, (x5_1 : Int).toNat * 5 + 3, none⟩ = false := hfr8 3; have hf8_4 : w16.frozen? ⟨go5, (x5_1 : Int).toNat * 5 + 4, none⟩ = false := hfr8 4; clear hcl8 hcc8 hfr8 hM8; replace p8 := eq_true p8; replace q8 := eq_true q8; have HX17 := Aside0.mk (show Kd.R k53 53 w16 w0.heap.size (fun k_ => (P0_ k_ ∨ w.heap.size ≤ k_)) (.slice (some ⟨go5, 0, none⟩) x0_1.length co10) y231 from u6_9); obtain ⟨ce17, hcl17, hM17, hcc17, hfr17⟩ := Kd.R_elem HX17.out z53 (x5_1 : Int) (of_decide_eq_true u6_0) (by have h_ : (x5_1 : Int) < ((x0_1.length : Int) : Int) := of_decide_eq_true u6_0; first | exact h_ | (have e_ := (Kd.R_reads' HO_0.out).1; omega) | simpa using h_); obtain rfl := k53_openM hM17; have HP17 := Kd.R_seg HX17.out (x5_1 : Int) (of_decide_eq_true u6_0) (by have h_ : (x5_1 : Int) < ((x0_1.length : Int) : Int) := of_decide_eq_true u6_0; first | exact h_ | (have e_ := (Kd.R_reads' HO_0.out).1; omega) | simpa using h_) (seg := [.int .u64 (IntKind.u64.wrap (wrap64 ((wrap64 ((wrap64 (x1_1 + 1)) + 1)) + 1)))]) (j := 3) hcl17 hcc17 (show 4 ≤ 5 from by decide) (x' := (⟨(rd_T53 y231 x5_1).f0, (rd_T53 y231 x5_1).f1, (rd_T53 y231 x5_1).f2, IntKind.u64.wrap (wrap64 ((wrap64 ((wrap64 (x1_1 + 1)) + 1)) + 1)), (rd_T53 y231 x5_1).f4⟩ : S53)) (k53_mkM _ _ _ (⟨(rd_T53 y231 x5_1).f0, (rd_T53 y231 x5_1).f1, (rd_T53 y231 x5_1).f2, IntKind.u64.wrap (wrap64 ((wrap64 ((wrap64 (x1_1 + 1)) + 1)) + 1)), (rd_T53 y231 x5_1).f4⟩ : S53) ) (fun _ hk => hk); have hx17_3 := hcc17 3 _ rfl; (try simp only [show (k53).sz = 5 from rfl, Nat.mul_one, Nat.add_zero] at hx17_3); have hf17_3 := hfr17 3; (try simp only [show (k53).sz = 5 from rfl, Nat.mul_one, Nat.add_zero] at hf17_3); clear hcl17 hcc17 hfr17 hM17) | ((with_reducible refine gate_store (t := 33) (p := 41) rfl ?_); refine store_event (t := 33) (p := 41) (v := ?vo_w18) (w1 := (w16.setCell ⟨go5, (x5_1 : Int).toNat * 5 + 3, none⟩ (.int .u64 (IntKind.u64.wrap (wrap64 ((wrap64 ((wrap64 (x1_1 + 1)) + 1)) + 1)))))) ?hg ?ho ?hn ?hr ?_; (case ho => rfl); (case hg => rfl); (case hn => rfl); (case hr => first | (go_simp; done) | (go_simp; rfl)); intro w18 hw; have hg : w16.grownBy w18 (some go5) := (by rw [hw]; exact HP17.2); have hp_ : Kd.R k53 53 w18 w0.heap.size (fun k_ => (P0_ k_ ∨ w.heap.size ≤ k_)) (.slice (some ⟨go5, 0, none⟩) x0_1.length co10) y232 := (by rw [hw, Ny232.out]; exact HP17.1); clear HP17; have n0_ := Aside0.mk (hp_); have n1_ := Aside0.mk ((by rw [hw]; exact below_set (HB.out) GB5.out : Below w0.heap.size w0 w18)); have n2_ := Aside0.mk (Kept.of_grown (S := (fun k_ => P0_ k_)) hg u6_7 (fun k_ e_ => (HO_0.out.1 k_ e_))); clear HO_0; clear HB; clear HK; have HO_0 := n0_; have HB := n1_; have HK := n2_; clear n0_ n1_ n2_; clear hg hw hp_; have p9 : 0 ≤ (x5_1 : Int) := of_decide_eq_true u6_0; have q9 : (x5_1 : Int) < ((x0_1.length : Int) : Int) := of_decide_eq_true u6_0; obtain ⟨ce9, hcl9, hM9, hcc9, hfr9⟩ := Kd.R_elem HO_0.out z53 (x5_1 : Int) p9 q9; obtain rfl := k53_openM hM9; have hx9_0 : w18.cell? ⟨go5, (x5_1 : Int).toNat * 5, none⟩ = some (.int .u64 ((rd_T53 y232 x5_1).f0)) := hcc9 0 _ rfl; have hx9_1 : w18.cell? ⟨go5, (x5_1 : Int).toNat * 5 + 1, none⟩ = some (.int .u64 ((rd_T53 y232 x5_1).f1)) := hcc9 1 _ rfl; have hx9_2 : w18.cell? ⟨go5, (x5_1 : Int).toNat * 5 + 2, none⟩ = some (.int .u64 ((rd_T53 y232 x5_1).f2)) := hcc9 2 _ rfl; have hx9_3 : w18.cell? ⟨go5, (x5_1 : Int).toNat * 5 + 3, none⟩ = some (.int .u64 ((rd_T53 y232 x5_1).f3)) := hcc9 3 _ rfl; have hx9_4 : w18.cell? ⟨go5, (x5_1 : Int).toNat * 5 + 4, none⟩ = some (.int .i64 ((rd_T53 y232 x5_1).f4)) := hcc9 4 _ rfl; have hf9_0 : w18.frozen? ⟨go5, (x5_1 : Int).toNat * 5, none⟩ = false := hfr9 0; have hf9_1 : w18.frozen? ⟨go5, (x5_1 : Int).toNat * 5 + 1, none⟩ = false := hfr9 1; have hf9_2 : w18.frozen? ⟨go5, (x5_1 : Int).toNat * 5 + 2, none⟩ = false := hfr9 2; have hf9_3 : w18.frozen? ⟨go5, (x5_1 : Int).toNat * 5 + 3, none⟩ = false := hfr9 3; have hf9_4 : w18.frozen? ⟨go5, (x5_1 : Int).toNat * 5 + 4, none⟩ = false := hfr9 4; clear hcl9 hcc9 hfr9 hM9; replace p9 := eq_true p9; replace q9 := eq_true q9; have HX19 := Aside0.mk (show Kd.R k53 53 w18 w0.heap.size (fun k_ => (P0_ k_ ∨ w.heap.size ≤ k_)) (.slice (some ⟨go5, 0, none⟩) x0_1.length co10) y232 from u6_9); obtain ⟨ce19, hcl19, hM19, hcc19, hfr19⟩ := Kd.R_elem HX19.out z53 (x5_1 : Int) (of_decide_eq_true u6_0) (by have h_ : (x5_1 : Int) < ((x0_1.length : Int) : Int) := of_decide_eq_true u6_0; first | exact h_ | (have e_ := (Kd.R_reads' HO_0.out).1; omega) | simpa using h_); obtain rfl := k53_openM hM19; have HP19 := Kd.R_seg HX19.out (x5_1 : Int) (of_decide_eq_true u6_0) (by have h_ : (x5_1 : Int) < ((x0_1.length : Int) : Int) := of_decide_eq_true u6_0; first | exact h_ | (have e_ := (Kd.R_reads' HO_0.out).1; omega) | simpa using h_) (seg := [.int .i64 (wrap64 ((wrap64 ((wrap64 ((wrap64 (x1_1 + 1)) + 1)) + 1)) + 1))]) (j := 4) hcl19 hcc19 (show 5 ≤ 5 from by decide) (x' := (⟨(rd_T53 y232 x5_1).f0, (rd_T53 y232 x5_1).f1, (rd_T53 y232 x5_1).f2, (rd_T53 y232 x5_1).f3, wrap64 ((wrap64 ((wrap64 ((wrap64 (x1_1 + 1)) + 1)) + 1)) + 1)⟩ : S53)) (k53_mkM _ _ _ (⟨(rd_T53 y232 x5_1).f0, (rd_T53 y232 x5_1).f1, (rd_T53 y232 x5_1).f2, (rd_T53 y232 x5_1).f3, wrap64 ((wrap64 ((wrap64 ((wrap64 (x1_1 + 1)) + 1)) + 1)) + 1)⟩ : S53) ) (fun _ hk => hk); have hx19_4 := hcc19 4 _ rfl; (try simp only [show (k53).sz = 5 from rfl, Nat.mul_one, Nat.add_zero] at hx19_4); have hf19_4 := hfr19 4; (try simp only [show (k53).sz = 5 from rfl, Nat.mul_one, Nat.add_zero] at hf19_4); clear hcl19 hcc19 hfr19 hM19) | ((with_reducible refine gate_store (t := 3) (p := 48) rfl ?_); refine store_event (t := 3) (p := 48) (v := ?vo_w20) (w1 := (w18.setCell ⟨go5, (x5_1 : Int).toNat * 5 + 4, none⟩ (.int .i64 (wrap64 ((wrap64 ((wrap64 ((wrap64 (x1_1 + 1)) + 1)) + 1)) + 1))))) ?hg ?ho ?hn ?hr ?_; (case ho => rfl); (case hg => rfl); (case hn => rfl); (case hr => first | (go_simp; done) | (go_simp; rfl)); intro w20 hw; have hg : w18.grownBy w20 (some go5) := (by rw [hw]; exact HP19.2); have hp_ : Kd.R k53 53 w20 w0.heap.size (fun k_ => (P0_ k_ ∨ w.heap.size ≤ k_)) (.slice (some ⟨go5, 0, none⟩) x0_1.length co10) y233 := (by rw [hw, Ny233.out]; exact HP19.1); clear HP19; have n0_ := Aside0.mk (hp_); have n1_ := Aside0.mk ((by rw [hw]; exact below_set (HB.out) GB5.out : Below w0.heap.size w0 w20)); have n2_ := Aside0.mk (Kept.of_grown (S := (fun k_ => P0_ k_)) hg u6_7 (fun k_ e_ => (HO_0.out.1 k_ e_))); clear HO_0; clear HB; clear HK; have HO_0 := n0_; have HB := n1_; have HK := n2_; clear n0_ n1_ n2_; clear hg hw hp_))
          go_roundg k1
          case measure => have := HK1.out; omega
          case rel => exact ⟨(y233), (wrap64 ((wrap64 ((wrap64 ((wrap64 ((wrap64 (x1_1 + 1)) + 1)) + 1)) + 1)) + 1)), (wrap64 (x5_1 + 1)), u6_10, u6_10, H', ⟨by have := HK1.out; omega⟩, ⟨by (with_reducible repeat (first | apply Kd.R_alloc | apply Kd.R_drewN | apply Kd.R_drew)); exact HO_0.out⟩, ⟨by repeat (first | (with_reducible first | exact HK.out | apply Kept.alloc | apply Kept.drewN | apply Kept.drew) | exact HK.out)⟩, ⟨by repeat (first | (with_reducible first | exact HB.out | apply below_alloc | apply pw_below_drewN | apply below_drew1) | exact HB.out)⟩⟩
        · rw [if_neg c4] at H
          exact absurd H (by simp)
      · rw [if_neg c3] at H
        have c3b0 : decide (x5_1 < (x0_1.length : Int)) = false := decide_eq_false c3
        clear c3
        simp only [Option.some.injEq, Prod.mk.injEq] at H
        obtain ⟨rfl, rfl⟩ := H
        obtain ⟨Ao21, co21, eo21⟩ := Kd.R_slice HO_0.out
        subst eo21
        go_wp2
        go_ret
        exact ⟨by first | rfl | (simp [errW_none, errW_some] <;> rfl) | (simp [*, errW_none, errW_some] <;> rfl), by (with_reducible repeat (first | apply Kd.R_alloc | apply Kd.R_drewN | apply Kd.R_drew)); exact HO_0.out, by repeat (first | (with_reducible first | exact HB.out | apply below_alloc | apply pw_below_drewN | apply below_drew1) | exact HB.out), by repeat (first | (with_reducible first | exact HK.out | apply Kept.alloc | apply Kept.drewN | apply Kept.drew) | exact HK.out)⟩

end Go.Proofs.Ytdbfjakhkclggaa.QFnExactMoveMoney
