-- Printed by the session's own program wip/prx.py.
import Derived.Test.YtdbfjakhkclggaaQFnBookx0
import Derived.Test.YtdbfjakhkclggaaQFnBookx2
import Derived.Test.YtdbfjakhkclggaaQFnBookx6
namespace Go.Proofs.Ytdbfjakhkclggaa.QFnBook
open Go.RowKit Go.Proofs.YtdbfjakhkclggaaW.PrintWords Go.Proofs.YtdbfjakhkclggaaW.PrintLast Go.Proofs.YtdbfjakhkclggaaW.PrintMore
attribute [local go_sem] max2_int min2_int max_two min_two max_three min_three max_four min_four Go.Proofs.Ytdbfjakhkclggaa.Set.isSome_setCell Go.Proofs.Ytdbfjakhkclggaa.Add.add64   -- for this text's walks alone
set_option linter.unusedVariables false
set_option linter.unusedSimpArgs false

-- squeezed
theorem u7_0 {P : Prop} (h : P := by repeat (first | (with_reducible first | exact HB.out | apply below_alloc | apply pw_below_drewN | apply below_drew1 | refine below_set ?_ GE190.out | refine below_set ?_ GE191.out | refine below_set ?_ GE195.out) | exact HB.out)) : P := h
theorem u7_1 {P : Prop} (h : P := by (with_reducible repeat (first | refine blk_drewN ?_ _ | refine blk_drew ?_ | refine blk_alloc ?_ _)); exact BK190.out) : P := h
theorem u7_2 {P : Prop} (h : P := by (with_reducible repeat (first | refine blk_drewN ?_ _ | refine blk_drew ?_ | refine blk_alloc ?_ _)); exact BK191.out) : P := h
theorem u7_3 {P : Prop} (h : P := by (with_reducible repeat (first | refine blk_drewN ?_ _ | refine blk_drew ?_ | refine blk_alloc ?_ _)); refine blk_put (cs := #[.slice none 0 0]) ?_ 0 _ rfl; (with_reducible repeat (first | refine blk_drewN ?_ _ | refine blk_drew ?_ | refine blk_alloc ?_ _)); exact BK191.out) : P := h
theorem u7_4 {P : Prop} (h : P := by first | (with_reducible assumption) | assumption) : P := h
theorem u7_5 {P : Prop} (h : P := by (with_reducible repeat (first | refine blk_drewN ?_ _ | refine blk_drew ?_ | refine blk_alloc ?_ _)); exact BK195.out) : P := h
theorem u7_6 {P : Prop} (h : P := by (with_reducible repeat (first | apply Kd.R_alloc | apply Kd.R_drewN | apply Kd.R_drew)); exact Kd.R_mono (Kd.R_far (p := ⟨gb191, 0, none⟩) (Kd.R_types HO_196000.out BK191.out (by decide)) (fun _ hk => hk.2) (.slice Ao15 t192.length co15)) (fun _ hk => trivial)) : P := h
theorem u7_7 {P : Prop} (h : P := by repeat (first | (with_reducible first | exact HB.out | apply below_alloc | apply pw_below_drewN | apply below_drew1 | refine below_set ?_ GE190.out | refine below_set ?_ GE191.out) | exact HB.out)) : P := h
theorem u7_8 {P : Prop} (h : P := by (try simp only [List.map_toArray, List.map_cons, List.map_nil]); first | done | rfl | (simp only [List.length_drop, List.length_take]; rfl)) : P := h
theorem u7_9 {P : Prop} (h : P := by (with_reducible repeat (first | apply Kd.R_alloc | apply Kd.R_drewN | apply Kd.R_drew)); exact HO_196000.out) : P := h
theorem u7_10 {P : Prop} (h : P := by repeat (first | exact (Kd.C_below HR0_0.out HB.out) | (with_reducible refine Kd.C_alloc ?_ _) | (with_reducible refine Kd.C_drewN ?_ _) | (with_reducible refine Kd.C_drew ?_))) : P := h
theorem u7_11 {P : Prop} (h : P := by (with_reducible repeat (first | apply Kd.R_alloc | apply Kd.R_drewN | apply Kd.R_drew)); exact HO194.out) : P := h
theorem u7_12 {P : Prop} (h : P := by repeat (first | (with_reducible first | exact HB.out | apply below_alloc | apply pw_below_drewN | apply below_drew1 | refine below_set ?_ GE190.out) | exact HB.out)) : P := h
theorem u7_13 {P : Prop} (h : P := by repeat (first | (with_reducible first | exact HB.out | apply below_alloc | apply pw_below_drewN | apply below_drew1) | exact HB.out)) : P := h
theorem u7_14 {P : Prop} (h : P := by first | rfl | (simp; done) | (simp [*]; done)) : P := h
theorem u7_15 {P : Prop} (h : P := by rw [List.length_take]; omega) : P := h
/-! ### impl_MoveMoney: function 25 -/
mutual
def impl_MoveMoney.j0 : Nat → Int → Int → Bool → Int → Bool → Bool → List (S53) → List (S53) → Option ((List (S53)) × Int)
  | 0, _, _, _, _, _, _, _, _ => none
  | k + 1, x3, x11, x12, x13, x14, x29, x191000, x196000 => if x29 = true then (some (x196000, 1)) else (if x12 = true then (impl_MoveMoney.j1 k x3 x11 x13 (!x14) x191000 x196000) else (impl_MoveMoney.j1 k x3 x11 x13 true x191000 x196000))
def impl_MoveMoney.j1 : Nat → Int → Int → Int → Bool → List (S53) → List (S53) → Option ((List (S53)) × Int)
  | 0, _, _, _, _, _, _ => none
  | k + 1, x3, x11, x13, x39, x191000, x196000 => if x39 = true then (some (x196000, 2)) else (if 0 ≤ x11 then (if x11 < (x191000.length : Int) then (if ((rd_T53 x191000 x11).f4) = 0 then (if 0 ≤ x13 then (if x13 < (x191000.length : Int) then (impl_MoveMoney.j2 k x3 x11 x13 (((rd_T53 x191000 x13).f4) != 0) x191000 x196000) else (none)) else (none)) else (impl_MoveMoney.j2 k x3 x11 x13 true x191000 x196000)) else (none)) else (none))
def impl_MoveMoney.j2 : Nat → Int → Int → Int → Bool → List (S53) → List (S53) → Option ((List (S53)) × Int)
  | 0, _, _, _, _, _, _ => none
  | k + 1, x3, x11, x13, x47, x191000, x196000 => if x47 = true then (some (x196000, 6)) else (if 0 ≤ x11 then (if x11 < (x191000.length : Int) then (if ((rd_T53 x191000 x11).f1) < x3 then (some (x196000, 4)) else (if 0 ≤ x13 then (if x13 < (x191000.length : Int) then (if (IntKind.u64.wrap (((rd_T53 x191000 x13).f1) + x3)) < x3 then (some (x196000, 5)) else (if x11 < (x196000.length : Int) then ((some (x196000.set (x11 : Int).toNat (⟨(rd_T53 x196000 x11).f0, IntKind.u64.wrap (((rd_T53 x196000 x11).f1) - x3), (rd_T53 x196000 x11).f2, (rd_T53 x196000 x11).f3, (rd_T53 x196000 x11).f4⟩ : S53) : List (S53))).bind fun y206 => (if x13 < (x196000.length : Int) then (some ((y206.set (x13 : Int).toNat (⟨(rd_T53 y206 x13).f0, IntKind.u64.wrap (((rd_T53 y206 x13).f1) + x3), (rd_T53 y206 x13).f2, (rd_T53 y206 x13).f3, (rd_T53 y206 x13).f4⟩ : S53)), 0)) else (none))) else (none))) else (none)) else (none))) else (none)) else (none))
end
def impl_MoveMoney.f (k : Nat) (l0_0 : List (S53)) (a1 : Int) (a2 : Int) (a3 : Int) : Option ((List (S53)) × Int) := (impl_copyBook.f l0_0).bind fun t192 => ((impl_accountOf.f k l0_0 a1).bind fun bt196 => ((impl_accountOf.f k l0_0 a2).bind fun bt198 => ((impl_isBook.f k l0_0).bind fun t200 => (if t200 = true then (impl_MoveMoney.j0 k a3 bt196.1 bt196.2 bt198.1 bt198.2 (a1 == a2) l0_0 t192) else (impl_MoveMoney.j0 k a3 bt196.1 bt196.2 bt198.1 bt198.2 true l0_0 t192)))))
theorem impl_MoveMoney.mono_l : ∀ k, (∀ y0 y1 y2 y3 y4 y5 y6 y7, LeO (impl_MoveMoney.j0 k y0 y1 y2 y3 y4 y5 y6 y7) (impl_MoveMoney.j0 (k + 1) y0 y1 y2 y3 y4 y5 y6 y7)) ∧ (∀ y0 y1 y2 y3 y4 y5, LeO (impl_MoveMoney.j1 k y0 y1 y2 y3 y4 y5) (impl_MoveMoney.j1 (k + 1) y0 y1 y2 y3 y4 y5)) ∧ (∀ y0 y1 y2 y3 y4 y5, LeO (impl_MoveMoney.j2 k y0 y1 y2 y3 y4 y5) (impl_MoveMoney.j2 (k + 1) y0 y1 y2 y3 y4 y5))
  | 0 => ⟨fun _ _ _ _ _ _ _ _ r h => by simp [impl_MoveMoney.j0] at h, fun _ _ _ _ _ _ r h => by simp [impl_MoveMoney.j1] at h, fun _ _ _ _ _ _ r h => by simp [impl_MoveMoney.j2] at h⟩
  | k + 1 => by
    obtain ⟨ih0, ih1, ih2⟩ := impl_MoveMoney.mono_l k
    refine ⟨?_, ?_, ?_⟩
    · intro y0 y1 y2 y3 y4 y5 y6 y7
      unfold impl_MoveMoney.j0
      repeat' first
      | (with_reducible exact ih0 _ _ _ _ _ _ _ _)
      | (with_reducible exact ih1 _ _ _ _ _ _)
      | (with_reducible exact ih2 _ _ _ _ _ _)
      | (with_reducible exact impl_accountOf.mono _ _ _)
      | (with_reducible exact impl_isBook.mono _ _)
      | (with_reducible exact LeO.refl _)
      | (with_reducible exact LeO.none _)
      | (with_reducible refine LeO.ite ?_ ?_)
      | (with_reducible refine LeO.bind ?_ (fun _ => ?_))
      | exact ih0 _ _ _ _ _ _ _ _
      | exact ih1 _ _ _ _ _ _
      | exact ih2 _ _ _ _ _ _
      | exact impl_accountOf.mono _ _ _
      | exact impl_isBook.mono _ _
      | exact LeO.none _
      | refine LeO.ite ?_ ?_
      | refine LeO.bind ?_ (fun _ => ?_)
    · intro y0 y1 y2 y3 y4 y5
      unfold impl_MoveMoney.j1
      repeat' first
      | (with_reducible exact ih0 _ _ _ _ _ _ _ _)
      | (with_reducible exact ih1 _ _ _ _ _ _)
      | (with_reducible exact ih2 _ _ _ _ _ _)
      | (with_reducible exact impl_accountOf.mono _ _ _)
      | (with_reducible exact impl_isBook.mono _ _)
      | (with_reducible exact LeO.refl _)
      | (with_reducible exact LeO.none _)
      | (with_reducible refine LeO.ite ?_ ?_)
      | (with_reducible refine LeO.bind ?_ (fun _ => ?_))
      | exact ih0 _ _ _ _ _ _ _ _
      | exact ih1 _ _ _ _ _ _
      | exact ih2 _ _ _ _ _ _
      | exact impl_accountOf.mono _ _ _
      | exact impl_isBook.mono _ _
      | exact LeO.none _
      | refine LeO.ite ?_ ?_
      | refine LeO.bind ?_ (fun _ => ?_)
    · intro y0 y1 y2 y3 y4 y5
      unfold impl_MoveMoney.j2
      repeat' first
      | (with_reducible exact ih0 _ _ _ _ _ _ _ _)
      | (with_reducible exact ih1 _ _ _ _ _ _)
      | (with_reducible exact ih2 _ _ _ _ _ _)
      | (with_reducible exact impl_accountOf.mono _ _ _)
      | (with_reducible exact impl_isBook.mono _ _)
      | (with_reducible exact LeO.refl _)
      | (with_reducible exact LeO.none _)
      | (with_reducible refine LeO.ite ?_ ?_)
      | (with_reducible refine LeO.bind ?_ (fun _ => ?_))
      | exact ih0 _ _ _ _ _ _ _ _
      | exact ih1 _ _ _ _ _ _
      | exact ih2 _ _ _ _ _ _
      | exact impl_accountOf.mono _ _ _
      | exact impl_isBook.mono _ _
      | exact LeO.none _
      | refine LeO.ite ?_ ?_
      | refine LeO.bind ?_ (fun _ => ?_)
theorem impl_MoveMoney.mono : ∀ a0 a1 a2 a3 k, LeO (impl_MoveMoney.f k a0 a1 a2 a3) (impl_MoveMoney.f (k + 1) a0 a1 a2 a3) := by
  intro a0 a1 a2 a3 k
  obtain ⟨ih0, ih1, ih2⟩ := impl_MoveMoney.mono_l k
  unfold impl_MoveMoney.f
  repeat' first
      | (with_reducible exact ih0 _ _ _ _ _ _ _ _)
      | (with_reducible exact ih1 _ _ _ _ _ _)
      | (with_reducible exact ih2 _ _ _ _ _ _)
      | (with_reducible exact impl_accountOf.mono _ _ _)
      | (with_reducible exact impl_isBook.mono _ _)
      | (with_reducible exact LeO.refl _)
      | (with_reducible exact LeO.none _)
      | (with_reducible refine LeO.ite ?_ ?_)
      | (with_reducible refine LeO.bind ?_ (fun _ => ?_))
      | exact ih0 _ _ _ _ _ _ _ _
      | exact ih1 _ _ _ _ _ _
      | exact ih2 _ _ _ _ _ _
      | exact impl_accountOf.mono _ _ _
      | exact impl_isBook.mono _ _
      | exact LeO.none _
      | refine LeO.ite ?_ ?_
      | refine LeO.bind ?_ (fun _ => ?_)
set_option maxHeartbeats 8000000 in
set_option maxRecDepth 100000 in
theorem impl_MoveMoney.calls (k : Nat) (A0_0 : Option Addr) (c0_0 : Nat) (l0_0 : List (S53)) (a1 : Int) (a2 : Int) (a3 : Int) (r1 : List (S53)) (r2 : Int) (w : World) (hr0_0 : Kd.C k53 w A0_0 l0_0.length l0_0) (hc0_0 : l0_0.length ≤ c0_0) (h : impl_MoveMoney.f k l0_0 a1 a2 a3 = some (r1, r2)) :
    Calls Try.prog 25 #[.agg #[.slice A0_0 l0_0.length c0_0], .int .u64 a1, .int .u64 a2, .int .u64 a3] w fun e w' => ∃ v0_ : Value, e = .returned (.tuple #[.agg #[v0_], .int .i64 r2]) ∧ Kd.R k53 53 w' w.heap.size (fun _ => True) v0_ r1 ∧ Below w.heap.size w w' := by
  have hu29 := Try.underlying29
  have HR0_0 := Aside0.mk hr0_0
  have HC0_0 := Aside0.mk hc0_0
  clear hr0_0 hc0_0
  have HB := Aside0.mk (Below.refl w.heap.size w)
  have H : ((impl_copyBook.f l0_0).bind fun t192 => ((impl_accountOf.f k l0_0 a1).bind fun bt196 => ((impl_accountOf.f k l0_0 a2).bind fun bt198 => ((impl_isBook.f k l0_0).bind fun t200 => (if t200 = true then (impl_MoveMoney.j0 k a3 bt196.1 bt196.2 bt198.1 bt198.2 (a1 == a2) l0_0 t192) else (impl_MoveMoney.j0 k a3 bt196.1 bt196.2 bt198.1 bt198.2 true l0_0 t192)))))) = some (r1, r2) := h
  clear h
  replace H := Option.bind_eq_some_iff.mp H
  obtain ⟨t192, A50, H⟩ := H
  have A5 := Aside0.mk A50
  clear A50
  replace H := Option.bind_eq_some_iff.mp H
  obtain ⟨⟨t196, t197⟩, A60, H⟩ := H
  (try dsimp only at H)
  have A6 := Aside0.mk A60
  clear A60
  replace H := Option.bind_eq_some_iff.mp H
  obtain ⟨⟨t198, t199⟩, A70, H⟩ := H
  (try dsimp only at H)
  have A7 := Aside0.mk A70
  clear A70
  have HC8 := Aside0.mk H
  clear H
  go_enter Try.func25, Try.ntmps25
  go_upto_region 4 with (first | ((with_reducible refine gate_dst (N := 4) rfl ?_); refine box_event ?hg (N := 4) ?hd (cs := #[.slice A0_0 l0_0.length c0_0]) (t := 29) ?hr ?_; (case hd => rfl); (case hg => rfl); (case hr => first | (go_simp; done) | (go_simp; rfl)); intro gb190 hg w9 hbox hb; have n0_ := Aside0.mk (below_step u7_13 hb); have n1_ := Aside0.mk (hbox); have n2_ := Aside0.mk ((by rw [hg]; exact (below_size u7_13) : w.heap.size ≤ gb190)); have n3_ := Aside0.mk ((by rw [hg]; exact (below_size u7_13) : w.heap.size ≤ gb190)); clear HB; have HB := n0_; have BK190 := n1_; have GW190 := n2_; have GE190 := n3_; clear n0_ n1_ n2_ n3_; clear hb hbox hg) | ((with_reducible refine gate_dst (N := 8) rfl ?_); refine box_event ?hg (N := 8) ?hd (cs := #[.slice none 0 0]) (t := 29) ?hr ?_; (case hd => rfl); (case hg => rfl); (case hr => first | (go_simp; done) | (go_simp; rfl)); intro gb191 hg w10 hbox hb; have n0_ := Aside0.mk (blk_below (g := gb190) (o := .cells #[.slice A0_0 l0_0.length c0_0] 29 (0, 0)) u7_1 hb); have n1_ := Aside0.mk (below_step u7_12 hb); have n2_ := Aside0.mk (hbox); have n3_ := Aside0.mk ((by rw [hg]; exact (below_size u7_12) : w.heap.size ≤ gb191)); have n4_ := Aside0.mk ((by rw [hg]; exact (below_size u7_12) : w.heap.size ≤ gb191)); have n5_ := Aside0.mk ((by rw [hg]; exact Nat.ne_of_lt (blk_lt (g := gb190) (o := .cells #[.slice A0_0 l0_0.length c0_0] 29 (0, 0)) u7_1) : gb190 ≠ gb191)); have n6_ := Aside0.mk ((by rw [hg]; exact Nat.ne_of_gt (blk_lt (g := gb190) (o := .cells #[.slice A0_0 l0_0.length c0_0] 29 (0, 0)) u7_1) : gb191 ≠ gb190)); clear BK190; clear HB; have BK190 := n0_; have HB := n1_; have BK191 := n2_; have GW191 := n3_; have GE191 := n4_; have NB190_191 := n5_; have NB191_190 := n6_; clear n0_ n1_ n2_ n3_ n4_ n5_ n6_; clear hb hbox hg; have hnb11 := NB190_191.out; have hnc11 := NB191_190.out; have hcz12_0 : w10.cell? ⟨gb190, 0, none⟩ = some (.slice A0_0 l0_0.length c0_0) := (blk_cell BK190.out 0).trans rfl; have hfz12_0 := blk_frozen BK190.out 0) | ((with_reducible refine gate_callee (f := 56) rfl ?_); refine goesL_ (some 16) rfl rfl Try.func56 (by kernel_rfl) rfl #[.agg #[.slice A0_0 l0_0.length c0_0]] rfl u7_8 ?_; (with_reducible refine (impl_copyBook.calls _ _ l0_0 t192 _ ?side1 ?side2 A5.out).mono ?_); (case side1 => exact u7_10); (case side2 => exact HC0_0.out); rintro e w13 ⟨v193, rfl, ho0, hb⟩; refine ⟨_, rfl, ?_⟩; have n0_ := Aside0.mk (Kd.R_lower ho0 (below_size u7_7)); have n1_ := Aside0.mk (blk_below (g := gb190) (o := .cells #[.slice A0_0 l0_0.length c0_0] 29 (0, 0)) u7_1 hb); have n2_ := Aside0.mk (blk_below (g := gb191) (o := .cells #[.slice none 0 0] 29 (0, 0)) u7_2 hb); have n3_ := Aside0.mk (below_step u7_7 hb); clear BK190; clear BK191; clear HB; have HO194 := n0_; have BK190 := n1_; have BK191 := n2_; have HB := n3_; clear n0_ n1_ n2_ n3_; (try clear hb); (try clear hb2); (try clear hk); (try clear hi); (try clear ho0)) | ((with_reducible refine gate_dst (N := 10) rfl ?_); refine box_event ?hg (N := 10) ?hd (cs := #[.slice none 0 0]) (t := 29) ?hr ?_; (case hd => rfl); (case hg => rfl); (case hr => first | (go_simp; done) | (go_simp; rfl)); intro gb195 hg w14 hbox hb; have n0_ := Aside0.mk (Kd.R_below u7_11 hb); have n1_ := Aside0.mk (blk_below (g := gb190) (o := .cells #[.slice A0_0 l0_0.length c0_0] 29 (0, 0)) u7_1 hb); have n2_ := Aside0.mk (blk_below (g := gb191) (o := .cells #[.slice none 0 0] 29 (0, 0)) u7_2 hb); have n3_ := Aside0.mk (below_step u7_7 hb); have n4_ := Aside0.mk (hbox); have n5_ := Aside0.mk ((by rw [hg]; exact (below_size u7_7) : w.heap.size ≤ gb195)); have n6_ := Aside0.mk ((by rw [hg]; exact (below_size u7_7) : w.heap.size ≤ gb195)); have n7_ := Aside0.mk ((by rw [hg]; exact Nat.ne_of_lt (blk_lt (g := gb190) (o := .cells #[.slice A0_0 l0_0.length c0_0] 29 (0, 0)) u7_1) : gb190 ≠ gb195)); have n8_ := Aside0.mk ((by rw [hg]; exact Nat.ne_of_gt (blk_lt (g := gb190) (o := .cells #[.slice A0_0 l0_0.length c0_0] 29 (0, 0)) u7_1) : gb195 ≠ gb190)); have n9_ := Aside0.mk ((by rw [hg]; exact Nat.ne_of_lt (blk_lt (g := gb191) (o := .cells #[.slice none 0 0] 29 (0, 0)) u7_2) : gb191 ≠ gb195)); have n10_ := Aside0.mk ((by rw [hg]; exact Nat.ne_of_gt (blk_lt (g := gb191) (o := .cells #[.slice none 0 0] 29 (0, 0)) u7_2) : gb195 ≠ gb191)); clear HO194; clear BK190; clear BK191; clear HB; have HO194 := n0_; have BK190 := n1_; have BK191 := n2_; have HB := n3_; have BK195 := n4_; have GW195 := n5_; have GE195 := n6_; have NB190_195 := n7_; have NB195_190 := n8_; have NB191_195 := n9_; have NB195_191 := n10_; clear n0_ n1_ n2_ n3_ n4_ n5_ n6_ n7_ n8_ n9_ n10_; clear hb hbox hg; obtain ⟨Ao15, co15, eo15⟩ := Kd.R_slice HO194.out; subst eo15; have hnb16 := NB195_190.out; have hnc16 := NB190_195.out; have hnb17 := NB195_191.out; have hnc17 := NB191_195.out; have hcz18_0 : w14.cell? ⟨gb195, 0, none⟩ = some (.slice none 0 0) := (blk_cell BK195.out 0).trans rfl; have hfz18_0 := blk_frozen BK195.out 0; have hcz19_0 : w14.cell? ⟨gb190, 0, none⟩ = some (.slice A0_0 l0_0.length c0_0) := (blk_cell BK190.out 0).trans rfl; have hfz19_0 := blk_frozen BK190.out 0) | ((with_reducible refine gate_callee (f := 57) rfl ?_); refine goesL_ (some 20) rfl rfl Try.func57 (by kernel_rfl) rfl #[.agg #[.slice A0_0 l0_0.length c0_0], .int .u64 a1] rfl u7_8 ?_; (with_reducible refine (impl_accountOf.calls k _ _ l0_0 a1 t196 t197 _ ?side1 ?side2 A6.out).mono ?_); (case side1 => exact (by exact Kd.C_below HR0_0.out u7_0)); (case side2 => exact HC0_0.out); rintro e w20 ⟨rfl, hb⟩; refine ⟨_, rfl, ?_⟩; have n0_ := Aside0.mk (Kd.R_below (by (with_reducible repeat (first | apply Kd.R_alloc | apply Kd.R_drewN | apply Kd.R_drew)); exact (Kd.R_mono (Kd.R_far (p := ⟨gb195, 0, none⟩) (Kd.R_types HO194.out BK195.out (by decide)) (fun _ hk => hk.2) (.slice Ao15 t192.length co15)) (fun _ h_ => h_.1))) hb); have n1_ := Aside0.mk (blk_below (g := gb190) (o := .cells #[.slice A0_0 l0_0.length c0_0] 29 (0, 0)) (by (with_reducible repeat (first | refine blk_drewN ?_ _ | refine blk_drew ?_ | refine blk_alloc ?_ _)); refine blk_far ?_ NB190_195.out _; (with_reducible repeat (first | refine blk_drewN ?_ _ | refine blk_drew ?_ | refine blk_alloc ?_ _)); exact BK190.out) hb); have n2_ := Aside0.mk (blk_below (g := gb191) (o := .cells #[.slice none 0 0] 29 (0, 0)) (by (with_reducible repeat (first | refine blk_drewN ?_ _ | refine blk_drew ?_ | refine blk_alloc ?_ _)); refine blk_far ?_ NB191_195.out _; (with_reducible repeat (first | refine blk_drewN ?_ _ | refine blk_drew ?_ | refine blk_alloc ?_ _)); exact BK191.out) hb); have n3_ := Aside0.mk (blk_below (g := gb195) (o := .cells #[.slice Ao15 t192.length co15] 29 (0, 0)) (by (with_reducible repeat (first | refine blk_drewN ?_ _ | refine blk_drew ?_ | refine blk_alloc ?_ _)); refine blk_put (cs := #[.slice none 0 0]) ?_ 0 _ rfl; (with_reducible repeat (first | refine blk_drewN ?_ _ | refine blk_drew ?_ | refine blk_alloc ?_ _)); exact BK195.out) hb); have n4_ := Aside0.mk (below_step u7_0 hb); clear HO194; clear BK190; clear BK191; clear BK195; clear HB; have HO194 := n0_; have BK190 := n1_; have BK191 := n2_; have BK195 := n3_; have HB := n4_; clear n0_ n1_ n2_ n3_ n4_; (try clear hb); (try clear hb2); (try clear hk); (try clear hi); have hcz21_0 : w20.cell? ⟨gb190, 0, none⟩ = some (.slice A0_0 l0_0.length c0_0) := (blk_cell BK190.out 0).trans rfl; have hfz21_0 := blk_frozen BK190.out 0) | ((with_reducible refine gate_callee (f := 57) rfl ?_); refine goesL_ (some 26) rfl rfl Try.func57 (by kernel_rfl) rfl #[.agg #[.slice A0_0 l0_0.length c0_0], .int .u64 a2] rfl u7_8 ?_; (with_reducible refine (impl_accountOf.calls k _ _ l0_0 a2 t198 t199 _ ?side1 ?side2 A7.out).mono ?_); (case side1 => exact u7_10); (case side2 => exact HC0_0.out); rintro e w22 ⟨rfl, hb⟩; refine ⟨_, rfl, ?_⟩; have n0_ := Aside0.mk (Kd.R_below u7_11 hb); have n1_ := Aside0.mk (blk_below (g := gb190) (o := .cells #[.slice A0_0 l0_0.length c0_0] 29 (0, 0)) u7_1 hb); have n2_ := Aside0.mk (blk_below (g := gb191) (o := .cells #[.slice none 0 0] 29 (0, 0)) u7_2 hb); have n3_ := Aside0.mk (blk_below (g := gb195) (o := .cells #[.slice Ao15 t192.length co15] 29 (0, 0)) u7_5 hb); have n4_ := Aside0.mk (below_step u7_0 hb); clear HO194; clear BK190; clear BK191; clear BK195; clear HB; have HO194 := n0_; have BK190 := n1_; have BK191 := n2_; have BK195 := n3_; have HB := n4_; clear n0_ n1_ n2_ n3_ n4_; (try clear hb); (try clear hb2); (try clear hk); (try clear hi)))
  (try simp only [Act.put, List.setIfInBounds_toArray, List.set_cons_zero, List.set_cons_succ])
  go_cut [29] (fun v29 wc => ∃ (kq : Nat) (x29_7 : Bool), v29 = .bool x29_7 ∧ Aside0 (impl_MoveMoney.j0 kq a3 t196 t197 t198 t199 x29_7 l0_0 t192 = some (r1, r2)) ∧ Aside0 (kq ≤ k) ∧ Aside0 (Kd.R k53 53 wc w.heap.size (fun _ => True) (.slice Ao15 t192.length co15) t192) ∧ Aside0 (wc.heap[gb190]? = some (.cells #[(.slice A0_0 l0_0.length c0_0)] 29 (0, 0))) ∧ Aside0 (wc.heap[gb191]? = some (.cells #[(.slice none 0 0)] 29 (0, 0))) ∧ Aside0 (wc.heap[gb195]? = some (.cells #[(.slice Ao15 t192.length co15)] 29 (0, 0))) ∧ Aside0 (Below w.heap.size w wc))
  case first =>
    have H := HC8.out
    clear HC8
    replace H := Option.bind_eq_some_iff.mp H
    obtain ⟨t200, A230, H⟩ := H
    have A23 := Aside0.mk A230
    clear A230
    by_cases c24 : t200 = true
    · subst c24
      rw [if_pos rfl] at H
      have H' := Aside0.mk H
      clear H
      have hnb25 := NB190_191.out
      have hnc25 := NB191_190.out
      have hnb26 := NB190_195.out
      have hnc26 := NB195_190.out
      have hcz27_0 : w22.cell? ⟨gb190, 0, none⟩ = some (.slice A0_0 l0_0.length c0_0) := (blk_cell BK190.out 0).trans rfl
      have hfz27_0 := blk_frozen BK190.out 0
      go_wp2_with (first | ((with_reducible refine gate_callee (f := 50) rfl ?_); refine goesL_ (some 31) rfl rfl Try.func50 (by kernel_rfl) rfl #[.agg #[.slice A0_0 l0_0.length c0_0]] rfl u7_8 ?_; (with_reducible refine (impl_isBook.calls k _ _ l0_0 true _ ?side1 ?side2 A23.out).mono ?_); (case side1 => exact u7_10); (case side2 => exact HC0_0.out); rintro e w28 ⟨rfl, hb⟩; refine ⟨_, rfl, ?_⟩; have n0_ := Aside0.mk (Kd.R_below u7_11 hb); have n1_ := Aside0.mk (blk_below (g := gb190) (o := .cells #[.slice A0_0 l0_0.length c0_0] 29 (0, 0)) u7_1 hb); have n2_ := Aside0.mk (blk_below (g := gb191) (o := .cells #[.slice none 0 0] 29 (0, 0)) u7_2 hb); have n3_ := Aside0.mk (blk_below (g := gb195) (o := .cells #[.slice Ao15 t192.length co15] 29 (0, 0)) u7_5 hb); have n4_ := Aside0.mk (below_step u7_0 hb); clear HO194; clear BK190; clear BK191; clear BK195; clear HB; have HO194 := n0_; have BK190 := n1_; have BK191 := n2_; have BK195 := n3_; have HB := n4_; clear n0_ n1_ n2_ n3_ n4_; (try clear hb); (try clear hb2); (try clear hk); (try clear hi)))
      go_meet
      case rel => exact ⟨_, ((a1 == a2)), u7_14, H', ⟨by first | omega | exact Nat.le_refl _⟩, ⟨u7_11⟩, ⟨u7_1⟩, ⟨u7_2⟩, ⟨u7_5⟩, ⟨u7_0⟩⟩
    replace c24 := Bool.eq_false_iff.mpr c24
    subst c24
    rw [if_neg (show ¬ (false = true) by decide)] at H
    have H' := Aside0.mk H
    clear H
    have hnb29 := NB190_191.out
    have hnc29 := NB191_190.out
    have hnb30 := NB190_195.out
    have hnc30 := NB195_190.out
    have hcz31_0 : w22.cell? ⟨gb190, 0, none⟩ = some (.slice A0_0 l0_0.length c0_0) := (blk_cell BK190.out 0).trans rfl
    have hfz31_0 := blk_frozen BK190.out 0
    go_wp2_with (first | ((with_reducible refine gate_callee (f := 50) rfl ?_); refine goesL_ (some 31) rfl rfl Try.func50 (by kernel_rfl) rfl #[.agg #[.slice A0_0 l0_0.length c0_0]] rfl u7_8 ?_; (with_reducible refine (impl_isBook.calls k _ _ l0_0 false _ ?side1 ?side2 A23.out).mono ?_); (case side1 => exact u7_10); (case side2 => exact HC0_0.out); rintro e w32 ⟨rfl, hb⟩; refine ⟨_, rfl, ?_⟩; have n0_ := Aside0.mk (Kd.R_below u7_11 hb); have n1_ := Aside0.mk (blk_below (g := gb190) (o := .cells #[.slice A0_0 l0_0.length c0_0] 29 (0, 0)) u7_1 hb); have n2_ := Aside0.mk (blk_below (g := gb191) (o := .cells #[.slice none 0 0] 29 (0, 0)) u7_2 hb); have n3_ := Aside0.mk (blk_below (g := gb195) (o := .cells #[.slice Ao15 t192.length co15] 29 (0, 0)) u7_5 hb); have n4_ := Aside0.mk (below_step u7_0 hb); clear HO194; clear BK190; clear BK191; clear BK195; clear HB; have HO194 := n0_; have BK190 := n1_; have BK191 := n2_; have BK195 := n3_; have HB := n4_; clear n0_ n1_ n2_ n3_ n4_; (try clear hb); (try clear hb2); (try clear hk); (try clear hi)))
    go_meet
    case rel => exact ⟨_, (true), u7_14, H', ⟨by first | omega | exact Nat.le_refl _⟩, ⟨u7_11⟩, ⟨u7_1⟩, ⟨u7_2⟩, ⟨u7_5⟩, ⟨u7_0⟩⟩
  clear HC8
  try clear c1
  try clear c2
  try clear p2
  try clear c3
  try clear c5
  try clear c11
  try clear c16
  try clear c17
  try clear c24
  try clear c25
  try clear c26
  try clear c29
  try clear c30
  try clear hcz12_0
  try clear hcz18_0
  try clear hcz19_0
  try clear hcz21_0
  try clear hcz27_0
  try clear hcz31_0
  try clear hfz12_0
  try clear hfz18_0
  try clear hfz19_0
  try clear hfz21_0
  try clear hfz27_0
  try clear hfz31_0
  obtain ⟨kq, x29_7, rfl, HA, HJ7, HO_196000, BK190, BK191, BK195, HB⟩ := hcut
  cases kq with
  | zero => exact absurd HA.out (by simp [impl_MoveMoney.j0])
  | succ kj7 =>
    have H := HA.out
    clear HA
    simp only [impl_MoveMoney.j0] at H
    by_cases c33 : x29_7 = true
    · subst c33
      rw [if_pos rfl] at H
      simp only [Option.some.injEq, Prod.mk.injEq] at H
      obtain ⟨rfl, rfl⟩ := H
      have hnb34 := NB195_190.out
      have hnc34 := NB190_195.out
      have hnb35 := NB195_191.out
      have hnc35 := NB191_195.out
      have hcz36_0 : wc.cell? ⟨gb195, 0, none⟩ = some (.slice Ao15 t192.length co15) := (blk_cell BK195.out 0).trans rfl
      have hfz36_0 := blk_frozen BK195.out 0
      have hnb37 := NB191_190.out
      have hnc37 := NB190_191.out
      have hcz38_0 : wc.cell? ⟨gb191, 0, none⟩ = some (.slice none 0 0) := (blk_cell BK191.out 0).trans rfl
      have hfz38_0 := blk_frozen BK191.out 0
      go_wp2
      refine bodyPost_ret (results_ct rfl _ _ gb191 29 #[.slice Ao15 t192.length co15] (0, 0) _ rfl u7_3 Try.underlying29 rfl (by kernel_rfl)) rfl ?_
      exact ⟨_, by first | rfl | (simp [errW_none, errW_some] <;> rfl) | (simp [*, errW_none, errW_some] <;> rfl), u7_6, u7_0⟩
    replace c33 := Bool.eq_false_iff.mpr c33
    subst c33
    rw [if_neg (show ¬ (false = true) by decide)] at H
    have HC39 := Aside0.mk H
    clear H
    go_upto_region 6 with (fail)
    go_cut [39] (fun v39 wc => ∃ (kq : Nat) (x39_38 : Bool), v39 = .bool x39_38 ∧ Aside0 (impl_MoveMoney.j1 kq a3 t196 t198 x39_38 l0_0 t192 = some (r1, r2)) ∧ Aside0 (kq ≤ kj7) ∧ Aside0 (Kd.R k53 53 wc w.heap.size (fun _ => True) (.slice Ao15 t192.length co15) t192) ∧ Aside0 (wc.heap[gb190]? = some (.cells #[(.slice A0_0 l0_0.length c0_0)] 29 (0, 0))) ∧ Aside0 (wc.heap[gb191]? = some (.cells #[(.slice none 0 0)] 29 (0, 0))) ∧ Aside0 (wc.heap[gb195]? = some (.cells #[(.slice Ao15 t192.length co15)] 29 (0, 0))) ∧ Aside0 (Below w.heap.size w wc))
    case first =>
      have H := HC39.out
      clear HC39
      by_cases c40 : t197 = true
      · subst c40
        rw [if_pos rfl] at H
        have H' := Aside0.mk H
        clear H
        go_wp2
        go_meet
        case rel => exact ⟨_, (!t199), u7_14, H', ⟨(by have := HJ7.out; first | omega | exact Nat.le_refl _)⟩, ⟨u7_9⟩, ⟨u7_1⟩, ⟨u7_2⟩, ⟨u7_5⟩, ⟨u7_0⟩⟩
      replace c40 := Bool.eq_false_iff.mpr c40
      subst c40
      rw [if_neg (show ¬ (false = true) by decide)] at H
      have H' := Aside0.mk H
      clear H
      go_wp2
      go_meet
      case rel => exact ⟨_, (true), u7_14, H', ⟨(by have := HJ7.out; first | omega | exact Nat.le_refl _)⟩, ⟨u7_9⟩, ⟨u7_1⟩, ⟨u7_2⟩, ⟨u7_5⟩, ⟨u7_0⟩⟩
    clear HC39
    try clear c1
    try clear c2
    try clear p2
    try clear c3
    try clear c4
    try clear c5
    try clear c11
    try clear c16
    try clear c17
    try clear c24
    try clear c25
    try clear c26
    try clear c29
    try clear c30
    try clear c33
    try clear c34
    try clear c35
    try clear c37
    try clear c40
    try clear hcz12_0
    try clear hcz18_0
    try clear hcz19_0
    try clear hcz21_0
    try clear hcz27_0
    try clear hcz31_0
    try clear hcz36_0
    try clear hcz38_0
    try clear hfz12_0
    try clear hfz18_0
    try clear hfz19_0
    try clear hfz21_0
    try clear hfz27_0
    try clear hfz31_0
    try clear hfz36_0
    try clear hfz38_0
    try clear p2
    obtain ⟨kq, x39_38, rfl, HA, HJ38, HO_196000, BK190, BK191, BK195, HB⟩ := hcut
    cases kq with
    | zero => exact absurd HA.out (by simp [impl_MoveMoney.j1])
    | succ kj38 =>
      have H := HA.out
      clear HA
      simp only [impl_MoveMoney.j1] at H
      by_cases c41 : x39_38 = true
      · subst c41
        rw [if_pos rfl] at H
        simp only [Option.some.injEq, Prod.mk.injEq] at H
        obtain ⟨rfl, rfl⟩ := H
        have hnb42 := NB195_190.out
        have hnc42 := NB190_195.out
        have hnb43 := NB195_191.out
        have hnc43 := NB191_195.out
        have hcz44_0 : wc.cell? ⟨gb195, 0, none⟩ = some (.slice Ao15 t192.length co15) := (blk_cell BK195.out 0).trans rfl
        have hfz44_0 := blk_frozen BK195.out 0
        have hnb45 := NB191_190.out
        have hnc45 := NB190_191.out
        have hcz46_0 : wc.cell? ⟨gb191, 0, none⟩ = some (.slice none 0 0) := (blk_cell BK191.out 0).trans rfl
        have hfz46_0 := blk_frozen BK191.out 0
        go_wp2
        refine bodyPost_ret (results_ct rfl _ _ gb191 29 #[.slice Ao15 t192.length co15] (0, 0) _ rfl u7_3 Try.underlying29 rfl (by kernel_rfl)) rfl ?_
        exact ⟨_, by first | rfl | (simp [errW_none, errW_some] <;> rfl) | (simp [*, errW_none, errW_some] <;> rfl), u7_6, u7_0⟩
      replace c41 := Bool.eq_false_iff.mpr c41
      subst c41
      rw [if_neg (show ¬ (false = true) by decide)] at H
      have HC47 := Aside0.mk H
      clear H
      go_upto_region 8 with (fail)
      go_cut [47] (fun v47 wc => ∃ (kq : Nat) (x47_46 : Bool), v47 = .bool x47_46 ∧ Aside0 (impl_MoveMoney.j2 kq a3 t196 t198 x47_46 l0_0 t192 = some (r1, r2)) ∧ Aside0 (kq ≤ kj38) ∧ Aside0 (Kd.R k53 53 wc w.heap.size (fun _ => True) (.slice Ao15 t192.length co15) t192) ∧ Aside0 (wc.heap[gb190]? = some (.cells #[(.slice A0_0 l0_0.length c0_0)] 29 (0, 0))) ∧ Aside0 (wc.heap[gb191]? = some (.cells #[(.slice none 0 0)] 29 (0, 0))) ∧ Aside0 (wc.heap[gb195]? = some (.cells #[(.slice Ao15 t192.length co15)] 29 (0, 0))) ∧ Aside0 (Below w.heap.size w wc))
      case first =>
        have H := HC47.out
        clear HC47
        by_cases c48 : 0 ≤ t196
        rotate_left
        · rw [if_neg c48] at H
          exact absurd H (by simp)
        rw [if_pos c48] at H
        have c48b0 : decide (0 ≤ t196) = true := decide_eq_true c48
        clear c48
        (first | rw [c48b0] | (simp only [i64_w, i32_w]; rw [c48b0]) | skip)
        by_cases c49 : t196 < (l0_0.length : Int)
        rotate_left
        · rw [if_neg c49] at H
          exact absurd H (by simp)
        rw [if_pos c49] at H
        have c49b0 : decide (t196 < (l0_0.length : Int)) = true := decide_eq_true c49
        clear c49
        by_cases c50 : ((rd_T53 l0_0 t196).f4) = 0
        rotate_left
        · rw [if_neg c50] at H
          have c50b0 : (((rd_T53 l0_0 t196).f4) == 0) = false := beq_eq_false_iff_ne.mpr c50
          have c50b1 : (((rd_T53 l0_0 t196).f4) != 0) = true := bne_iff_ne.mpr c50
          have H' := Aside0.mk H
          clear H
          have hnb56 := NB190_191.out
          have hnc56 := NB191_190.out
          have hnb57 := NB190_195.out
          have hnc57 := NB195_190.out
          have hcz58_0 : wc.cell? ⟨gb190, 0, none⟩ = some (.slice A0_0 l0_0.length c0_0) := (blk_cell BK190.out 0).trans rfl
          have hfz58_0 := blk_frozen BK190.out 0
          have p201 : 0 ≤ (t196 : Int) := of_decide_eq_true u7_4
          have q201 : t196 < (l0_0.length : Int) := of_decide_eq_true u7_4
          obtain ⟨ad201, e201, hx201_0, hx201_1, hx201_2, hx201_3, hx201_4⟩ := at_T53 HR0_0.out t196 p201 q201
          cases e201
          replace hx201_0 := (HB.out.cell (World.block_lt_of_cell? w _ hx201_0)).trans hx201_0
          replace hx201_1 := (HB.out.cell (World.block_lt_of_cell? w _ hx201_1)).trans hx201_1
          replace hx201_2 := (HB.out.cell (World.block_lt_of_cell? w _ hx201_2)).trans hx201_2
          replace hx201_3 := (HB.out.cell (World.block_lt_of_cell? w _ hx201_3)).trans hx201_3
          replace hx201_4 := (HB.out.cell (World.block_lt_of_cell? w _ hx201_4)).trans hx201_4
          replace p201 := eq_true p201
          replace q201 := eq_true q201
          go_wp2
          go_meet
          case rel => exact ⟨_, (true), u7_14, H', ⟨(by have := HJ7.out; have := HJ38.out; first | omega | exact Nat.le_refl _)⟩, ⟨u7_9⟩, ⟨u7_1⟩, ⟨u7_2⟩, ⟨u7_5⟩, ⟨u7_0⟩⟩
        rw [if_pos c50] at H
        have c50b0 : (((rd_T53 l0_0 t196).f4) == 0) = true := beq_iff_eq.mpr c50
        have c50b1 : (((rd_T53 l0_0 t196).f4) != 0) = false := bne_eq_false_iff_eq.mpr c50
        clear c50
        by_cases c51 : 0 ≤ t198
        rotate_left
        · rw [if_neg c51] at H
          exact absurd H (by simp)
        rw [if_pos c51] at H
        have c51b0 : decide (0 ≤ t198) = true := decide_eq_true c51
        clear c51
        by_cases c52 : t198 < (l0_0.length : Int)
        rotate_left
        · rw [if_neg c52] at H
          exact absurd H (by simp)
        rw [if_pos c52] at H
        have c52b0 : decide (t198 < (l0_0.length : Int)) = true := decide_eq_true c52
        clear c52
        have H' := Aside0.mk H
        clear H
        have hnb53 := NB190_191.out
        have hnc53 := NB191_190.out
        have hnb54 := NB190_195.out
        have hnc54 := NB195_190.out
        have hcz55_0 : wc.cell? ⟨gb190, 0, none⟩ = some (.slice A0_0 l0_0.length c0_0) := (blk_cell BK190.out 0).trans rfl
        have hfz55_0 := blk_frozen BK190.out 0
        have p201 : 0 ≤ (t196 : Int) := of_decide_eq_true u7_4
        have q201 : t196 < (l0_0.length : Int) := of_decide_eq_true u7_4
        obtain ⟨ad201, e201, hx201_0, hx201_1, hx201_2, hx201_3, hx201_4⟩ := at_T53 HR0_0.out t196 p201 q201
        cases e201
        replace hx201_0 := (HB.out.cell (World.block_lt_of_cell? w _ hx201_0)).trans hx201_0
        replace hx201_1 := (HB.out.cell (World.block_lt_of_cell? w _ hx201_1)).trans hx201_1
        replace hx201_2 := (HB.out.cell (World.block_lt_of_cell? w _ hx201_2)).trans hx201_2
        replace hx201_3 := (HB.out.cell (World.block_lt_of_cell? w _ hx201_3)).trans hx201_3
        replace hx201_4 := (HB.out.cell (World.block_lt_of_cell? w _ hx201_4)).trans hx201_4
        replace p201 := eq_true p201
        replace q201 := eq_true q201
        have p202 : 0 ≤ (t198 : Int) := of_decide_eq_true u7_4
        have q202 : t198 < (l0_0.length : Int) := of_decide_eq_true u7_4
        obtain ⟨ad202, e202, hx202_0, hx202_1, hx202_2, hx202_3, hx202_4⟩ := at_T53 HR0_0.out t198 p202 q202
        obtain rfl : ad201 = ad202 := (by injection e202)
        replace hx202_0 := (HB.out.cell (World.block_lt_of_cell? w _ hx202_0)).trans hx202_0
        replace hx202_1 := (HB.out.cell (World.block_lt_of_cell? w _ hx202_1)).trans hx202_1
        replace hx202_2 := (HB.out.cell (World.block_lt_of_cell? w _ hx202_2)).trans hx202_2
        replace hx202_3 := (HB.out.cell (World.block_lt_of_cell? w _ hx202_3)).trans hx202_3
        replace hx202_4 := (HB.out.cell (World.block_lt_of_cell? w _ hx202_4)).trans hx202_4
        replace p202 := eq_true p202
        replace q202 := eq_true q202
        go_wp2
        go_meet
        case rel => exact ⟨_, ((((rd_T53 l0_0 t198).f4) != 0)), u7_14, H', ⟨(by have := HJ7.out; have := HJ38.out; first | omega | exact Nat.le_refl _)⟩, ⟨u7_9⟩, ⟨u7_1⟩, ⟨u7_2⟩, ⟨u7_5⟩, ⟨u7_0⟩⟩
      clear HC47
      try clear c1
      try clear c2
      try clear p2
      try clear q2
      try clear hx2
      try clear c3
      try clear c4
      try clear c5
      try clear c11
      try clear c16
      try clear c17
      try clear p20
      try clear q20
      try clear hx20
      try clear c24
      try clear c25
      try clear c26
      try clear c29
      try clear c30
      try clear c33
      try clear c34
      try clear c35
      try clear c37
      try clear c40
      try clear c41
      try clear c42
      try clear c43
      try clear c45
      try clear c48
      try clear c48b0
      try clear c49
      try clear c49b0
      try clear c50
      try clear c50b0
      try clear c50b1
      try clear c51
      try clear c51b0
      try clear c52
      try clear c52b0
      try clear c53
      try clear c54
      try clear c56
      try clear c57
      try clear hcz12_0
      try clear hcz18_0
      try clear hcz19_0
      try clear hcz21_0
      try clear hcz27_0
      try clear hcz31_0
      try clear hcz36_0
      try clear hcz38_0
      try clear hcz44_0
      try clear hcz46_0
      try clear hcz55_0
      try clear hcz58_0
      try clear hfz12_0
      try clear hfz18_0
      try clear hfz19_0
      try clear hfz21_0
      try clear hfz27_0
      try clear hfz31_0
      try clear hfz36_0
      try clear hfz38_0
      try clear hfz44_0
      try clear hfz46_0
      try clear hfz55_0
      try clear hfz58_0
      try clear hx201_0
      try clear hx201_1
      try clear hx201_2
      try clear hx201_3
      try clear hx201_4
      try clear hx202_0
      try clear hx202_1
      try clear hx202_2
      try clear hx202_3
      try clear hx202_4
      try clear p2
      try clear p201
      try clear p202
      try clear q201
      try clear q202
      obtain ⟨kq, x47_46, rfl, HA, HJ46, HO_196000, BK190, BK191, BK195, HB⟩ := hcut
      cases kq with
      | zero => exact absurd HA.out (by simp [impl_MoveMoney.j2])
      | succ kj46 =>
        have H := HA.out
        clear HA
        simp only [impl_MoveMoney.j2] at H
        by_cases c59 : x47_46 = true
        · subst c59
          rw [if_pos rfl] at H
          simp only [Option.some.injEq, Prod.mk.injEq] at H
          obtain ⟨rfl, rfl⟩ := H
          have hnb60 := NB195_190.out
          have hnc60 := NB190_195.out
          have hnb61 := NB195_191.out
          have hnc61 := NB191_195.out
          have hcz62_0 : wc.cell? ⟨gb195, 0, none⟩ = some (.slice Ao15 t192.length co15) := (blk_cell BK195.out 0).trans rfl
          have hfz62_0 := blk_frozen BK195.out 0
          have hnb63 := NB191_190.out
          have hnc63 := NB190_191.out
          have hcz64_0 : wc.cell? ⟨gb191, 0, none⟩ = some (.slice none 0 0) := (blk_cell BK191.out 0).trans rfl
          have hfz64_0 := blk_frozen BK191.out 0
          go_wp2
          refine bodyPost_ret (results_ct rfl _ _ gb191 29 #[.slice Ao15 t192.length co15] (0, 0) _ rfl u7_3 Try.underlying29 rfl (by kernel_rfl)) rfl ?_
          exact ⟨_, by first | rfl | (simp [errW_none, errW_some] <;> rfl) | (simp [*, errW_none, errW_some] <;> rfl), u7_6, u7_0⟩
        replace c59 := Bool.eq_false_iff.mpr c59
        subst c59
        rw [if_neg (show ¬ (false = true) by decide)] at H
        by_cases c65 : 0 ≤ t196
        rotate_left
        · rw [if_neg c65] at H
          exact absurd H (by simp)
        rw [if_pos c65] at H
        have c65b0 : decide (0 ≤ t196) = true := decide_eq_true c65
        clear c65
        by_cases c66 : t196 < (l0_0.length : Int)
        rotate_left
        · rw [if_neg c66] at H
          exact absurd H (by simp)
        rw [if_pos c66] at H
        have c66b0 : decide (t196 < (l0_0.length : Int)) = true := decide_eq_true c66
        clear c66
        have H9 := Aside0.mk H
        clear H
        have hnb67 := NB190_191.out
        have hnc67 := NB191_190.out
        have hnb68 := NB190_195.out
        have hnc68 := NB195_190.out
        have hcz69_0 : wc.cell? ⟨gb190, 0, none⟩ = some (.slice A0_0 l0_0.length c0_0) := (blk_cell BK190.out 0).trans rfl
        have hfz69_0 := blk_frozen BK190.out 0
        have p203 : 0 ≤ (t196 : Int) := of_decide_eq_true u7_4
        have q203 : t196 < (l0_0.length : Int) := of_decide_eq_true u7_4
        obtain ⟨ad203, e203, hx203_0, hx203_1, hx203_2, hx203_3, hx203_4⟩ := at_T53 HR0_0.out t196 p203 q203
        cases e203
        replace hx203_0 := (HB.out.cell (World.block_lt_of_cell? w _ hx203_0)).trans hx203_0
        replace hx203_1 := (HB.out.cell (World.block_lt_of_cell? w _ hx203_1)).trans hx203_1
        replace hx203_2 := (HB.out.cell (World.block_lt_of_cell? w _ hx203_2)).trans hx203_2
        replace hx203_3 := (HB.out.cell (World.block_lt_of_cell? w _ hx203_3)).trans hx203_3
        replace hx203_4 := (HB.out.cell (World.block_lt_of_cell? w _ hx203_4)).trans hx203_4
        replace p203 := eq_true p203
        replace q203 := eq_true q203
        go_upto_if 65 with (fail)
        have H := H9.out
        clear H9
        by_cases c70 : ((rd_T53 l0_0 t196).f1) < a3
        · rw [if_pos c70] at H
          have c70b0 : decide (((rd_T53 l0_0 t196).f1) < a3) = true := decide_eq_true c70
          clear c70
          (first | rw [c70b0] | (simp only [i64_w, i32_w]; rw [c70b0]) | skip)
          simp only [Option.some.injEq, Prod.mk.injEq] at H
          obtain ⟨rfl, rfl⟩ := H
          have hnb71 := NB195_190.out
          have hnc71 := NB190_195.out
          have hnb72 := NB195_191.out
          have hnc72 := NB191_195.out
          have hcz73_0 : wc.cell? ⟨gb195, 0, none⟩ = some (.slice Ao15 t192.length co15) := (blk_cell BK195.out 0).trans rfl
          have hfz73_0 := blk_frozen BK195.out 0
          have hnb74 := NB191_190.out
          have hnc74 := NB190_191.out
          have hcz75_0 : wc.cell? ⟨gb191, 0, none⟩ = some (.slice none 0 0) := (blk_cell BK191.out 0).trans rfl
          have hfz75_0 := blk_frozen BK191.out 0
          go_wp2
          refine bodyPost_ret (results_ct rfl _ _ gb191 29 #[.slice Ao15 t192.length co15] (0, 0) _ rfl u7_3 Try.underlying29 rfl (by kernel_rfl)) rfl ?_
          exact ⟨_, by first | rfl | (simp [errW_none, errW_some] <;> rfl) | (simp [*, errW_none, errW_some] <;> rfl), u7_6, u7_0⟩
        rw [if_neg c70] at H
        have c70b0 : decide (((rd_T53 l0_0 t196).f1) < a3) = false := decide_eq_false c70
        clear c70
        (first | rw [c70b0] | (simp only [i64_w, i32_w]; rw [c70b0]) | skip)
        by_cases c76 : 0 ≤ t198
        rotate_left
        · rw [if_neg c76] at H
          exact absurd H (by simp)
        rw [if_pos c76] at H
        have c76b0 : decide (0 ≤ t198) = true := decide_eq_true c76
        clear c76
        by_cases c77 : t198 < (l0_0.length : Int)
        rotate_left
        · rw [if_neg c77] at H
          exact absurd H (by simp)
        rw [if_pos c77] at H
        have c77b0 : decide (t198 < (l0_0.length : Int)) = true := decide_eq_true c77
        clear c77
        have H9 := Aside0.mk H
        clear H
        have hnb78 := NB190_191.out
        have hnc78 := NB191_190.out
        have hnb79 := NB190_195.out
        have hnc79 := NB195_190.out
        have hcz80_0 : wc.cell? ⟨gb190, 0, none⟩ = some (.slice (some ad203) l0_0.length c0_0) := (blk_cell BK190.out 0).trans rfl
        have hfz80_0 := blk_frozen BK190.out 0
        have p204 : 0 ≤ (t198 : Int) := of_decide_eq_true u7_4
        have q204 : t198 < (l0_0.length : Int) := of_decide_eq_true u7_4
        obtain ⟨ad204, e204, hx204_0, hx204_1, hx204_2, hx204_3, hx204_4⟩ := at_T53 HR0_0.out t198 p204 q204
        obtain rfl : ad203 = ad204 := (by injection e204)
        replace hx204_0 := (HB.out.cell (World.block_lt_of_cell? w _ hx204_0)).trans hx204_0
        replace hx204_1 := (HB.out.cell (World.block_lt_of_cell? w _ hx204_1)).trans hx204_1
        replace hx204_2 := (HB.out.cell (World.block_lt_of_cell? w _ hx204_2)).trans hx204_2
        replace hx204_3 := (HB.out.cell (World.block_lt_of_cell? w _ hx204_3)).trans hx204_3
        replace hx204_4 := (HB.out.cell (World.block_lt_of_cell? w _ hx204_4)).trans hx204_4
        replace p204 := eq_true p204
        replace q204 := eq_true q204
        go_upto_if 75 with (fail)
        have H := H9.out
        clear H9
        by_cases c81 : (IntKind.u64.wrap (((rd_T53 l0_0 t198).f1) + a3)) < a3
        · rw [if_pos c81] at H
          have c81b0 : decide ((IntKind.u64.wrap (((rd_T53 l0_0 t198).f1) + a3)) < a3) = true := decide_eq_true c81
          clear c81
          (first | rw [c81b0] | (simp only [i64_w, i32_w]; rw [c81b0]) | skip)
          simp only [Option.some.injEq, Prod.mk.injEq] at H
          obtain ⟨rfl, rfl⟩ := H
          have hnb82 := NB195_190.out
          have hnc82 := NB190_195.out
          have hnb83 := NB195_191.out
          have hnc83 := NB191_195.out
          have hcz84_0 : wc.cell? ⟨gb195, 0, none⟩ = some (.slice Ao15 t192.length co15) := (blk_cell BK195.out 0).trans rfl
          have hfz84_0 := blk_frozen BK195.out 0
          have hnb85 := NB191_190.out
          have hnc85 := NB190_191.out
          have hcz86_0 : wc.cell? ⟨gb191, 0, none⟩ = some (.slice none 0 0) := (blk_cell BK191.out 0).trans rfl
          have hfz86_0 := blk_frozen BK191.out 0
          go_wp2
          refine bodyPost_ret (results_ct rfl _ _ gb191 29 #[.slice Ao15 t192.length co15] (0, 0) _ rfl u7_3 Try.underlying29 rfl (by kernel_rfl)) rfl ?_
          exact ⟨_, by first | rfl | (simp [errW_none, errW_some] <;> rfl) | (simp [*, errW_none, errW_some] <;> rfl), u7_6, u7_0⟩
        rw [if_neg c81] at H
        have c81b0 : decide ((IntKind.u64.wrap (((rd_T53 l0_0 t198).f1) + a3)) < a3) = false := decide_eq_false c81
        clear c81
        (first | rw [c81b0] | (simp only [i64_w, i32_w]; rw [c81b0]) | skip)
        by_cases c87 : t196 < (t192.length : Int)
        rotate_left
        · rw [if_neg c87] at H
          exact absurd H (by simp)
        rw [if_pos c87] at H
        have c87b0 : decide (t196 < (t192.length : Int)) = true := decide_eq_true c87
        clear c87
        obtain ⟨y206, hy206⟩ : ∃ y_ : List (S53), y_ = (t192.set (t196 : Int).toNat (⟨(rd_T53 t192 t196).f0, IntKind.u64.wrap (((rd_T53 t192 t196).f1) - a3), (rd_T53 t192 t196).f2, (rd_T53 t192 t196).f3, (rd_T53 t192 t196).f4⟩ : S53)) := ⟨_, rfl⟩
        replace H : (if t198 < (t192.length : Int) then (some ((y206.set (t198 : Int).toNat (⟨(rd_T53 y206 t198).f0, IntKind.u64.wrap (((rd_T53 y206 t198).f1) + a3), (rd_T53 y206 t198).f2, (rd_T53 y206 t198).f3, (rd_T53 y206 t198).f4⟩ : S53)), 0)) else (none)) = some (r1, r2) := by first | (rw [hy206]; with_reducible exact H) | (have H2_ := (Option.bind_some _ _).symm.trans H; rw [hy206]; with_reducible exact H2_) | (have H2_ := (Option.bind_some _ _).symm.trans H; with_reducible exact H2_) | with_reducible exact H | (rw [hy206]; exact H) | exact H
        have Ny206 := Aside0.mk hy206
        clear hy206
        by_cases c89 : t198 < (t192.length : Int)
        rotate_left
        · rw [if_neg c89] at H
          exact absurd H (by simp)
        rw [if_pos c89] at H
        have c89b0 : decide (t198 < (t192.length : Int)) = true := decide_eq_true c89
        clear c89
        obtain ⟨y208, hy208⟩ : ∃ y_ : List (S53), y_ = (y206.set (t198 : Int).toNat (⟨(rd_T53 y206 t198).f0, IntKind.u64.wrap (((rd_T53 y206 t198).f1) + a3), (rd_T53 y206 t198).f2, (rd_T53 y206 t198).f3, (rd_T53 y206 t198).f4⟩ : S53)) := ⟨_, rfl⟩
        replace H : (some (y208, 0)) = some (r1, r2) := by first | (rw [hy208]; with_reducible exact H) | (have H2_ := (Option.bind_some _ _).symm.trans H; rw [hy208]; with_reducible exact H2_) | (have H2_ := (Option.bind_some _ _).symm.trans H; with_reducible exact H2_) | with_reducible exact H | (rw [hy208]; exact H) | exact H
        have Ny208 := Aside0.mk hy208
        clear hy208
        simp only [Option.some.injEq, Prod.mk.injEq] at H
        obtain ⟨rfl, rfl⟩ := H
        have hnb91 := NB195_190.out
        have hnc91 := NB190_195.out
        have hnb92 := NB195_191.out
        have hnc92 := NB191_195.out
        have hcz93_0 : wc.cell? ⟨gb195, 0, none⟩ = some (.slice Ao15 t192.length co15) := (blk_cell BK195.out 0).trans rfl
        have hfz93_0 := blk_frozen BK195.out 0
        have p205 : 0 ≤ (t196 : Int) := of_decide_eq_true u7_4
        have q205 : t196 < (t192.length : Int) := of_decide_eq_true u7_4
        obtain ⟨ad205, e205, hx205_0, hx205_1, hx205_2, hx205_3, hx205_4⟩ := at_T53 (Kd.R_reads' HO_196000.out).2.2 t196 p205 q205
        cases e205
        replace p205 := eq_true p205
        replace q205 := eq_true q205
        have p88 : 0 ≤ (t196 : Int) := of_decide_eq_true u7_4
        have q88 : (t196 : Int) < ((t192.length : Int) : Int) := of_decide_eq_true u7_4
        obtain ⟨go88, co88, eo88, gb88, gl88, cl88, HG88⟩ := Kd.R_form HO_196000.out (by omega)
        (first | cases eo88 | (injection eo88 with ea_ en_ ec_; (first | subst ea_ | (injection ea_ with ea_; subst ea_)); subst ec_; clear en_))
        have GB88 := Aside0.mk gb88
        have GG88 := Aside0.mk HG88
        clear gb88 gl88 HG88
        (first | simp only [add_plain] at hx205_0 | skip)
        (first | simp only [add_plain] at hx205_1 | skip)
        (first | simp only [add_plain] at hx205_2 | skip)
        (first | simp only [add_plain] at hx205_3 | skip)
        (first | simp only [add_plain] at hx205_4 | skip)
        obtain ⟨ce88, hcl88, hM88, hcc88, hfr88⟩ := Kd.R_elem HO_196000.out z53 (t196 : Int) p88 q88
        obtain rfl := k53_openM hM88
        have hx88_0 : wc.cell? ⟨go88, (t196 : Int).toNat * 5, none⟩ = some (.int .u64 ((rd_T53 t192 t196).f0)) := hcc88 0 _ rfl
        have hx88_1 : wc.cell? ⟨go88, (t196 : Int).toNat * 5 + 1, none⟩ = some (.int .u64 ((rd_T53 t192 t196).f1)) := hcc88 1 _ rfl
        have hx88_2 : wc.cell? ⟨go88, (t196 : Int).toNat * 5 + 2, none⟩ = some (.int .u64 ((rd_T53 t192 t196).f2)) := hcc88 2 _ rfl
        have hx88_3 : wc.cell? ⟨go88, (t196 : Int).toNat * 5 + 3, none⟩ = some (.int .u64 ((rd_T53 t192 t196).f3)) := hcc88 3 _ rfl
        have hx88_4 : wc.cell? ⟨go88, (t196 : Int).toNat * 5 + 4, none⟩ = some (.int .i64 ((rd_T53 t192 t196).f4)) := hcc88 4 _ rfl
        have hf88_0 : wc.frozen? ⟨go88, (t196 : Int).toNat * 5, none⟩ = false := hfr88 0
        have hf88_1 : wc.frozen? ⟨go88, (t196 : Int).toNat * 5 + 1, none⟩ = false := hfr88 1
        have hf88_2 : wc.frozen? ⟨go88, (t196 : Int).toNat * 5 + 2, none⟩ = false := hfr88 2
        have hf88_3 : wc.frozen? ⟨go88, (t196 : Int).toNat * 5 + 3, none⟩ = false := hfr88 3
        have hf88_4 : wc.frozen? ⟨go88, (t196 : Int).toNat * 5 + 4, none⟩ = false := hfr88 4
        clear hcl88 hcc88 hfr88 hM88
        replace p88 := eq_true p88
        replace q88 := eq_true q88
        have HX94 := Aside0.mk (show Kd.R k53 53 wc w.heap.size (fun _ => True) (.slice (some ⟨go88, 0, none⟩) t192.length co15) t192 from u7_9)
        obtain ⟨ce94, hcl94, hM94, hcc94, hfr94⟩ := Kd.R_elem HX94.out z53 (t196 : Int) (of_decide_eq_true u7_4) (by have h_ : (t196 : Int) < ((t192.length : Int) : Int) := of_decide_eq_true u7_4; first | exact h_ | (have e_ := (Kd.R_reads' HO_196000.out).1; omega) | simpa using h_)
        obtain rfl := k53_openM hM94
        have HP94 := Kd.R_seg HX94.out (t196 : Int) (of_decide_eq_true u7_4) (by have h_ : (t196 : Int) < ((t192.length : Int) : Int) := of_decide_eq_true u7_4; first | exact h_ | (have e_ := (Kd.R_reads' HO_196000.out).1; omega) | simpa using h_) (seg := [.int .u64 (IntKind.u64.wrap (((rd_T53 t192 t196).f1) - a3))]) (j := 1) hcl94 hcc94 (show 2 ≤ 5 from by decide) (x' := (⟨(rd_T53 t192 t196).f0, IntKind.u64.wrap (((rd_T53 t192 t196).f1) - a3), (rd_T53 t192 t196).f2, (rd_T53 t192 t196).f3, (rd_T53 t192 t196).f4⟩ : S53)) (k53_mkM _ _ _ (⟨(rd_T53 t192 t196).f0, IntKind.u64.wrap (((rd_T53 t192 t196).f1) - a3), (rd_T53 t192 t196).f2, (rd_T53 t192 t196).f3, (rd_T53 t192 t196).f4⟩ : S53) ) (fun _ hk => hk)
        have hx94_1 := hcc94 1 _ rfl
        (try simp only [show (k53).sz = 5 from rfl, Nat.mul_one, Nat.add_zero] at hx94_1)
        have hf94_1 := hfr94 1
        (try simp only [show (k53).sz = 5 from rfl, Nat.mul_one, Nat.add_zero] at hf94_1)
        clear hcl94 hcc94 hfr94 hM94
        go_wp2_with (first | ((with_reducible refine gate_store (t := 33) (p := 96) rfl ?_); refine store_event (t := 33) (p := 96) (v := ?vo_w95) (w1 := (wc.setCell ⟨go88, (t196 : Int).toNat * 5 + 1, none⟩ (.int .u64 (IntKind.u64.wrap (((rd_T53 t192 t196).f1) - a3))))) ?hg ?ho ?hn ?hr ?_; (case ho => rfl); (case hg => rfl); (case hn => rfl); (case hr => first | (go_simp; done) | (go_simp; rfl)); intro w95 hw; have hg : wc.grownBy w95 (some go88) := (by rw [hw]; exact HP94.2); have hp_ : Kd.R k53 53 w95 w.heap.size (fun _ => True) (.slice (some ⟨go88, 0, none⟩) t192.length co15) y206 := (by rw [hw, Ny206.out]; exact HP94.1); clear HP94; have n0_ := Aside0.mk (hp_); have n1_ := Aside0.mk (blk_grown (g := gb190) (o := .cells #[.slice (some ad203) l0_0.length c0_0] 29 (0, 0)) u7_1 hg (Kd.R_ne HO_196000.out BK190.out (by decide))); have n2_ := Aside0.mk (blk_grown (g := gb191) (o := .cells #[.slice none 0 0] 29 (0, 0)) u7_2 hg (Kd.R_ne HO_196000.out BK191.out (by decide))); have n3_ := Aside0.mk (blk_grown (g := gb195) (o := .cells #[.slice (some ⟨go88, 0, none⟩) t192.length co15] 29 (0, 0)) u7_5 hg (Kd.R_ne HO_196000.out BK195.out (by decide))); have n4_ := Aside0.mk ((by rw [hw]; exact below_set (HB.out) GB88.out : Below w.heap.size w w95)); clear HO_196000; clear BK190; clear BK191; clear BK195; clear HB; have HO_196000 := n0_; have BK190 := n1_; have BK191 := n2_; have BK195 := n3_; have HB := n4_; clear n0_ n1_ n2_ n3_ n4_; clear hg hw hp_; have hcz96_0 : w95.cell? ⟨gb195, 0, none⟩ = some (.slice (some ⟨go88, 0, none⟩) t192.length co15) := (blk_cell BK195.out 0).trans rfl; have hfz96_0 := blk_frozen BK195.out 0; have p207 : 0 ≤ (t198 : Int) := of_decide_eq_true u7_4; have q207 : t198 < (y206.length : Int) := (by have h_ : (t198 : Int) < ((t192.length : Int) : Int) := of_decide_eq_true u7_4; first | (have e_ := (Kd.R_reads' HO_196000.out).1; omega) | simpa only [Ny206.out, List.length_set] using h_); have ql207 : ((t198 : Int) < ((t192.length : Int) : Int)) = True := eq_true (of_decide_eq_true u7_4); obtain ⟨ad207, e207, hx207_0, hx207_1, hx207_2, hx207_3, hx207_4⟩ := at_T53 (Kd.R_reads' HO_196000.out).2.2 t198 p207 q207; obtain rfl : (⟨go88, 0, none⟩ : Addr) = ad207 := (by injection e207); (first | simp only [add_plain] at hx207_0 | simp only [add_at] at hx207_0 | simp only [Addr.add, Nat.zero_add] at hx207_0 | skip); (first | simp only [add_plain] at hx207_1 | simp only [add_at] at hx207_1 | simp only [Addr.add, Nat.zero_add] at hx207_1 | skip); (first | simp only [add_plain] at hx207_2 | simp only [add_at] at hx207_2 | simp only [Addr.add, Nat.zero_add] at hx207_2 | skip); (first | simp only [add_plain] at hx207_3 | simp only [add_at] at hx207_3 | simp only [Addr.add, Nat.zero_add] at hx207_3 | skip); (first | simp only [add_plain] at hx207_4 | simp only [add_at] at hx207_4 | simp only [Addr.add, Nat.zero_add] at hx207_4 | skip); replace p207 := eq_true p207; replace q207 := eq_true q207; have p90 : 0 ≤ (t198 : Int) := of_decide_eq_true u7_4; have q90 : (t198 : Int) < ((t192.length : Int) : Int) := of_decide_eq_true u7_4; obtain ⟨ce90, hcl90, hM90, hcc90, hfr90⟩ := Kd.R_elem HO_196000.out z53 (t198 : Int) p90 q90; obtain rfl := k53_openM hM90; have hx90_0 : w95.cell? ⟨go88, (t198 : Int).toNat * 5, none⟩ = some (.int .u64 ((rd_T53 y206 t198).f0)) := hcc90 0 _ rfl; have hx90_1 : w95.cell? ⟨go88, (t198 : Int).toNat * 5 + 1, none⟩ = some (.int .u64 ((rd_T53 y206 t198).f1)) := hcc90 1 _ rfl; have hx90_2 : w95.cell? ⟨go88, (t198 : Int).toNat * 5 + 2, none⟩ = some (.int .u64 ((rd_T53 y206 t198).f2)) := hcc90 2 _ rfl; have hx90_3 : w95.cell? ⟨go88, (t198 : Int).toNat * 5 + 3, none⟩ = some (.int .u64 ((rd_T53 y206 t198).f3)) := hcc90 3 _ rfl; have hx90_4 : w95.cell? ⟨go88, (t198 : Int).toNat * 5 + 4, none⟩ = some (.int .i64 ((rd_T53 y206 t198).f4)) := hcc90 4 _ rfl; have hf90_0 : w95.frozen? ⟨go88, (t198 : Int).toNat * 5, none⟩ = false := hfr90 0; have hf90_1 : w95.frozen? ⟨go88, (t198 : Int).toNat * 5 + 1, none⟩ = false := hfr90 1; have hf90_2 : w95.frozen? ⟨go88, (t198 : Int).toNat * 5 + 2, none⟩ = false := hfr90 2; have hf90_3 : w95.frozen? ⟨go88, (t198 : Int).toNat * 5 + 3, none⟩ = false := hfr90 3; have hf90_4 : w95.frozen? ⟨go88, (t198 : Int).toNat * 5 + 4, none⟩ = false := hfr90 4; clear hcl90 hcc90 hfr90 hM90; replace p90 := eq_true p90; replace q90 := eq_true q90; have HX97 := Aside0.mk (show Kd.R k53 53 w95 w.heap.size (fun _ => True) (.slice (some ⟨go88, 0, none⟩) t192.length co15) y206 from u7_9); obtain ⟨ce97, hcl97, hM97, hcc97, hfr97⟩ := Kd.R_elem HX97.out z53 (t198 : Int) (of_decide_eq_true u7_4) (by have h_ : (t198 : Int) < ((t192.length : Int) : Int) := of_decide_eq_true u7_4; first | exact h_ | (have e_ := (Kd.R_reads' HO_196000.out).1; omega) | simpa using h_); obtain rfl := k53_openM hM97; have HP97 := Kd.R_seg HX97.out (t198 : Int) (of_decide_eq_true u7_4) (by have h_ : (t198 : Int) < ((t192.length : Int) : Int) := of_decide_eq_true u7_4; first | exact h_ | (have e_ := (Kd.R_reads' HO_196000.out).1; omega) | simpa using h_) (seg := [.int .u64 (IntKind.u64.wrap (((rd_T53 y206 t198).f1) + a3))]) (j := 1) hcl97 hcc97 (show 2 ≤ 5 from by decide) (x' := (⟨(rd_T53 y206 t198).f0, IntKind.u64.wrap (((rd_T53 y206 t198).f1) + a3), (rd_T53 y206 t198).f2, (rd_T53 y206 t198).f3, (rd_T53 y206 t198).f4⟩ : S53)) (k53_mkM _ _ _ (⟨(rd_T53 y206 t198).f0, IntKind.u64.wrap (((rd_T53 y206 t198).f1) + a3), (rd_T53 y206 t198).f2, (rd_T53 y206 t198).f3, (rd_T53 y206 t198).f4⟩ : S53) ) (fun _ hk => hk); have hx97_1 := hcc97 1 _ rfl; (try simp only [show (k53).sz = 5 from rfl, Nat.mul_one, Nat.add_zero] at hx97_1); have hf97_1 := hfr97 1; (try simp only [show (k53).sz = 5 from rfl, Nat.mul_one, Nat.add_zero] at hf97_1); clear hcl97 hcc97 hfr97 hM97) | ((with_reducible refine gate_store (t := 33) (p := 106) rfl ?_); refine store_event (t := 33) (p := 106) (v := ?vo_w98) (w1 := (w95.setCell ⟨go88, (t198 : Int).toNat * 5 + 1, none⟩ (.int .u64 (IntKind.u64.wrap (((rd_T53 y206 t198).f1) + a3))))) ?hg ?ho ?hn ?hr ?_; (case ho => rfl); (case hg => rfl); (case hn => rfl); (case hr => first | (go_simp; done) | (go_simp; rfl)); intro w98 hw; have hg : w95.grownBy w98 (some go88) := (by rw [hw]; exact HP97.2); have hp_ : Kd.R k53 53 w98 w.heap.size (fun _ => True) (.slice (some ⟨go88, 0, none⟩) t192.length co15) y208 := (by rw [hw, Ny208.out]; exact HP97.1); clear HP97; have n0_ := Aside0.mk (hp_); have n1_ := Aside0.mk (blk_grown (g := gb190) (o := .cells #[.slice (some ad203) l0_0.length c0_0] 29 (0, 0)) u7_1 hg (Kd.R_ne HO_196000.out BK190.out (by decide))); have n2_ := Aside0.mk (blk_grown (g := gb191) (o := .cells #[.slice none 0 0] 29 (0, 0)) u7_2 hg (Kd.R_ne HO_196000.out BK191.out (by decide))); have n3_ := Aside0.mk (blk_grown (g := gb195) (o := .cells #[.slice (some ⟨go88, 0, none⟩) t192.length co15] 29 (0, 0)) u7_5 hg (Kd.R_ne HO_196000.out BK195.out (by decide))); have n4_ := Aside0.mk ((by rw [hw]; exact below_set (HB.out) GB88.out : Below w.heap.size w w98)); clear HO_196000; clear BK190; clear BK191; clear BK195; clear HB; have HO_196000 := n0_; have BK190 := n1_; have BK191 := n2_; have BK195 := n3_; have HB := n4_; clear n0_ n1_ n2_ n3_ n4_; clear hg hw hp_; have hcz99_0 : w98.cell? ⟨gb195, 0, none⟩ = some (.slice (some ⟨go88, 0, none⟩) t192.length co15) := (blk_cell BK195.out 0).trans rfl; have hfz99_0 := blk_frozen BK195.out 0; have hnb100 := NB191_190.out; have hnc100 := NB190_191.out; have hcz101_0 : w98.cell? ⟨gb191, 0, none⟩ = some (.slice none 0 0) := (blk_cell BK191.out 0).trans rfl; have hfz101_0 := blk_frozen BK191.out 0))
        refine bodyPost_ret (results_ct rfl _ _ gb191 29 #[.slice (some ⟨go88, 0, none⟩) t192.length co15] (0, 0) _ rfl u7_3 Try.underlying29 rfl (by kernel_rfl)) rfl ?_
        exact ⟨_, by first | rfl | (simp [errW_none, errW_some] <;> rfl) | (simp [*, errW_none, errW_some] <;> rfl), (by (with_reducible repeat (first | apply Kd.R_alloc | apply Kd.R_drewN | apply Kd.R_drew)); exact Kd.R_mono (Kd.R_far (p := ⟨gb191, 0, none⟩) (Kd.R_types HO_196000.out BK191.out (by decide)) (fun _ hk => hk.2) (.slice (some ⟨go88, 0, none⟩) t192.length co15)) (fun _ hk => trivial)), u7_0⟩

/-! ### impl_Account: function 78 -/
def impl_Account.enc (x : S53) : List Value := [.int .u64 x.f0, .int .u64 x.f1, .int .u64 x.f2, .int .u64 x.f3, .int .i64 x.f4]
theorem impl_Account.flat : Go.Proofs.Ytdbfjakhkclggaa.Slc.Flat k53 impl_Account.enc := ⟨fun w base ok x => k53_mkM w base ok x, fun h => k53_open h⟩
def impl_Account.f (l0 : List (S53)) (a1 : Int) (a2 : Int) : Option (List (S53)) := if 0 ≤ a1 ∧ a2 = a1 + 1 ∧ a1 < (l0.length : Int) then some (l0.eraseIdx a1.toNat) else none
theorem impl_Account.size : (Try.prog.info? 53).map (·.size) = some 5 := by kernel_rfl
theorem impl_Account.zero (w : World) : (zeroValue 53).run Try.prog w = .ok (.agg #[.int .u64 0, .int .u64 0, .int .u64 0, .int .u64 0, .int .i64 0]) w := by kernel_rfl
set_option maxHeartbeats 2000000 in
set_option maxRecDepth 100000 in
theorem impl_Account.calls (P0_ : Nat → Prop) (u9000_ : Value) (l0 : List (S53)) (a1 : Int) (a2 : Int) (r : List (S53)) (w0 w : World) (hB : Below w0.heap.size w0 w) (ho0 : Kd.R k53 53 w w0.heap.size P0_ u9000_ l0) (h : impl_Account.f l0 a1 a2 = some r) :
    Calls Try.prog 78 #[u9000_, .int .i64 a1, .int .i64 a2] w fun e w' => ∃ v0_ : Value, e = .returned (v0_) ∧ Kd.R k53 53 w' w0.heap.size (fun k_ => (P0_ k_ ∨ w.heap.size ≤ k_)) v0_ r ∧ Below w0.heap.size w0 w' ∧ Kept w w' (fun k_ => P0_ k_) := by
  unfold impl_Account.f at h
  by_cases hc : 0 ≤ a1 ∧ a2 = a1 + 1 ∧ a1 < (l0.length : Int)
  rotate_left
  · rw [if_neg hc] at h; cases h
  rw [if_pos hc] at h
  obtain rfl := Option.some.inj h
  clear h
  obtain ⟨h0, rfl, hlt⟩ := hc
  obtain ⟨i, rfl⟩ := Int.eq_ofNat_of_zero_le h0
  have hi : i < l0.length := by omega
  obtain ⟨g, cap, cur, hv, hg, hP, hb, hcap, hm, hs, ht⟩ := impl_Account.flat.block ho0 (by omega)
  subst hv
  obtain ⟨n, hn⟩ : ∃ n, n = l0.length := ⟨_, rfl⟩
  unfold maxLen at hm
  have hm63 := hm
  have HO := Aside0.mk (Kd.R_mono ho0 (ok' := fun k_ => P0_ k_ ∨ w.heap.size ≤ k_) (fun k hk => .inl hk))
  have HB := Aside0.mk hB
  have HG := Aside0.mk hg
  have HP := Aside0.mk hP
  have HN := Aside0.mk hn
  rw [← hn] at HO ⊢
  rw [← hn] at hi hcap
  clear ho0 hB hg hP hb hs ht hn h0 hlt
  have e1 : (i : Int) + 1 = ((i + 1 : Nat) : Int) := by omega
  rw [Int.toNat_natCast]
  have p1 : (i : Int) ≤ ((i + 1 : Nat) : Int) := by omega
  have p2 : ((i + 1 : Nat) : Int) ≤ (n : Int) := by omega
  have p3 : ¬ ((i : Int) = ((i + 1 : Nat) : Int)) := by omega
  rw [e1]
  clear e1
  have hsz := impl_Account.size
  have hdr : Aside0 (Kd.R k53 53 w.drew w0.heap.size (fun k_ => P0_ k_ ∨ w.heap.size ≤ k_) (.slice (some ⟨g, 0, none⟩) n cap) l0) := ⟨HO.out⟩
  have hbd : Aside0 (Below w0.heap.size w0 w.drew) := ⟨below_drew HB.out⟩
  clear HO
  have hic : i ≤ cap := by omega
  have hjc : i + 1 ≤ cap := by omega
  have hq : (i : Int) ≤ (i : Int) + 1 := by omega
  have hr0 : (0 : Int) ≤ (i : Int) + 1 := by omega
  have hr1 : (i : Int) + 1 ≤ (n : Int) := by omega
  by_cases hce : cap = i + 1
  · subst hce
    clear hic hjc
    go_enter Try.func78, Try.ntmps78
    go_wp2_with (fail)
    go_region_law (refine Kd.R_delete_step k53 (w0 := w0) w0.heap.size (by simp [Region.wanted]) (.tmp 22) (.tmp 25) 27 53 rfl Try.underlying27 hsz (g := g) (n := n) (c := i + 1) (k := i) (m := n - (i + 1)) (c2 := 0) (A := some ⟨g, 0, none⟩) (by simp [Act.eval, Act.put]) (by simp [Act.eval, Act.put]; omega) (by simp) rfl hdr.out hi hbd.out hbd.out.size ?_; intro w1 hr hb hgw)
    have hcn : ¬ ((i + 1) = n - 1) := by omega
    have hnn : n - 1 ≤ n := by omega
    have hk1 : ((n - 1 : Nat) : Int) ≤ (n : Int) := by omega
    obtain ⟨hl1, _, hok1, _, _, cur1, hb1, hs1, ht1⟩ := impl_Account.flat.blockG hr
    have hsz3 : (k53).sz = 5 := rfl
    have hcl : ∀ ty, (Builtin.clear_ #[27] ty #[.slice (some ⟨g, (n - 1) * 5, none⟩) (n - (n - 1)) ((i + 1) - (n - 1))]).run Try.prog w1 = .ok (.tuple #[]) (w1.setCells g ((n - 1) * 5) (.agg #[.int .u64 0, .int .u64 0, .int .u64 0, .int .u64 0, .int .i64 0] : Value).cells.toList) := fun ty => by
      rw [show n - (n - 1) = 1 by omega]
      refine Go.Proofs.Ytdbfjakhkclggaa.Slc.run_clear_one w1 _ 53 ty _ Try.underlying27 impl_Account.zero g _ _ (by decide) (fun j hj => ?_) (fun j hj => blk_frozen hb1 _)
      have hj' : j < 5 := hj
      rw [blk_cell hb1, Array.getElem?_eq_getElem (by rw [hs1, hsz3]; omega)]
      rfl
    obtain ⟨W2, hW2⟩ : ∃ W2, W2 = w1.setCells g ((n - 1) * 5) (.agg #[.int .u64 0, .int .u64 0, .int .u64 0, .int .u64 0, .int .i64 0] : Value).cells.toList := ⟨_, rfl⟩
    rw [← hW2] at hcl
    obtain ⟨cur2, hb2, hs2, hk2, _⟩ := Go.Proofs.Ytdbfjakhkclggaa.Slc.setCells_blk g 53 (.agg #[.int .u64 0, .int .u64 0, .int .u64 0, .int .u64 0, .int .i64 0] : Value).cells.toList ((n - 1) * 5) w1 cur1 hb1
    rw [← hW2] at hb2
    have hR : Kd.R k53 53 W2 w0.heap.size (fun k_ => (P0_ k_ ∨ w.heap.size ≤ k_)) (.slice (some ⟨g, 0, none⟩) (n - 1) (i + 1)) (l0.eraseIdx i) := by
      refine impl_Account.flat.row hb2 HG.out hok1 hl1.symm (by omega) (by unfold maxLen; omega) (hs2.trans hs1) ?_
      rw [← ht1, ← hl1]
      apply List.ext_getElem?
      intro q
      by_cases hq : q < (n - 1) * (k53).sz
      · rw [List.getElem?_take_of_lt hq, List.getElem?_take_of_lt hq, Array.getElem?_toList, Array.getElem?_toList]
        exact hk2 q (.inl (by rw [hsz3] at hq; exact hq))
      · rw [List.getElem?_eq_none u7_15, List.getElem?_eq_none u7_15]
    have hBel : Below w0.heap.size w0 W2 := by rw [hW2]; exact Go.Proofs.Ytdbfjakhkclggaa.Slc.below_setCells HG.out _ _ hb
    have hKp : Kept w W2 (fun k_ => P0_ k_) := by
      rw [hW2]
      exact Go.Proofs.Ytdbfjakhkclggaa.Slc.kept_setCells (.inl HP.out) _ _ (Kept.of_grown (W := w.drew) hgw (Kept.drew (Kept.refl w _)) (fun k hk => .inl (by injection hk with hk; exact hk ▸ HP.out)))
    have HR := Aside0.mk hR
    have HBe := Aside0.mk hBel
    have HKp := Aside0.mk hKp
    clear hR hBel hKp hr hb hgw hb1 hs1 ht1 hb2 hs2 hk2 hW2 hl1 hok1 hsz3
    go_wp2
    go_ret
    exact ⟨_, rfl, HR.out, HBe.out, HKp.out⟩
  go_enter Try.func78, Try.ntmps78
  go_wp2_with (fail)
  go_region_law (refine Kd.R_delete_step k53 (w0 := w0) w0.heap.size (by simp [Region.wanted]) (.tmp 22) (.tmp 25) 27 53 rfl Try.underlying27 hsz (g := g) (n := n) (c := cap) (k := i) (m := n - (i + 1)) (c2 := cap - (i + 1)) (A := some ⟨g, (i + 1) * 5, none⟩) (by simp [Act.eval, Act.put]) (by simp [Act.eval, Act.put]) (by rw [if_neg hce]; simp only [Option.map_some, add_plain]; first | done | rfl) rfl hdr.out hi hbd.out hbd.out.size ?_; intro w1 hr hb hgw)
  have hcn : ¬ (cap = n - 1) := by omega
  have hnn : n - 1 ≤ n := by omega
  have hk1 : ((n - 1 : Nat) : Int) ≤ (n : Int) := by omega
  obtain ⟨hl1, _, hok1, _, _, cur1, hb1, hs1, ht1⟩ := impl_Account.flat.blockG hr
  have hsz3 : (k53).sz = 5 := rfl
  have hcl : ∀ ty, (Builtin.clear_ #[27] ty #[.slice (some ⟨g, (n - 1) * 5, none⟩) (n - (n - 1)) (cap - (n - 1))]).run Try.prog w1 = .ok (.tuple #[]) (w1.setCells g ((n - 1) * 5) (.agg #[.int .u64 0, .int .u64 0, .int .u64 0, .int .u64 0, .int .i64 0] : Value).cells.toList) := fun ty => by
    rw [show n - (n - 1) = 1 by omega]
    refine Go.Proofs.Ytdbfjakhkclggaa.Slc.run_clear_one w1 _ 53 ty _ Try.underlying27 impl_Account.zero g _ _ (by decide) (fun j hj => ?_) (fun j hj => blk_frozen hb1 _)
    have hj' : j < 5 := hj
    rw [blk_cell hb1, Array.getElem?_eq_getElem (by rw [hs1, hsz3]; omega)]
    rfl
  obtain ⟨W2, hW2⟩ : ∃ W2, W2 = w1.setCells g ((n - 1) * 5) (.agg #[.int .u64 0, .int .u64 0, .int .u64 0, .int .u64 0, .int .i64 0] : Value).cells.toList := ⟨_, rfl⟩
  rw [← hW2] at hcl
  obtain ⟨cur2, hb2, hs2, hk2, _⟩ := Go.Proofs.Ytdbfjakhkclggaa.Slc.setCells_blk g 53 (.agg #[.int .u64 0, .int .u64 0, .int .u64 0, .int .u64 0, .int .i64 0] : Value).cells.toList ((n - 1) * 5) w1 cur1 hb1
  rw [← hW2] at hb2
  have hR : Kd.R k53 53 W2 w0.heap.size (fun k_ => (P0_ k_ ∨ w.heap.size ≤ k_)) (.slice (some ⟨g, 0, none⟩) (n - 1) cap) (l0.eraseIdx i) := by
    refine impl_Account.flat.row hb2 HG.out hok1 hl1.symm (by omega) (by unfold maxLen; omega) (hs2.trans hs1) ?_
    rw [← ht1, ← hl1]
    apply List.ext_getElem?
    intro q
    by_cases hq : q < (n - 1) * (k53).sz
    · rw [List.getElem?_take_of_lt hq, List.getElem?_take_of_lt hq, Array.getElem?_toList, Array.getElem?_toList]
      exact hk2 q (.inl (by rw [hsz3] at hq; exact hq))
    · rw [List.getElem?_eq_none u7_15, List.getElem?_eq_none u7_15]
  have hBel : Below w0.heap.size w0 W2 := by rw [hW2]; exact Go.Proofs.Ytdbfjakhkclggaa.Slc.below_setCells HG.out _ _ hb
  have hKp : Kept w W2 (fun k_ => P0_ k_) := by
    rw [hW2]
    exact Go.Proofs.Ytdbfjakhkclggaa.Slc.kept_setCells (.inl HP.out) _ _ (Kept.of_grown (W := w.drew) hgw (Kept.drew (Kept.refl w _)) (fun k hk => .inl (by injection hk with hk; exact hk ▸ HP.out)))
  have HR := Aside0.mk hR
  have HBe := Aside0.mk hBel
  have HKp := Aside0.mk hKp
  clear hR hBel hKp hr hb hgw hb1 hs1 ht1 hb2 hs2 hk2 hW2 hl1 hok1 hsz3
  go_wp2
  go_ret
  exact ⟨_, rfl, HR.out, HBe.out, HKp.out⟩


end Go.Proofs.Ytdbfjakhkclggaa.QFnBook
