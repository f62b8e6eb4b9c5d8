-- Printed by the session's own program wip/prx.py.
import Derived.Test.YtdbfjakhkclggaaQFnHoldsx0
import Derived.Test.YtdbfjakhkclggaaQFnHoldsx2
namespace Go.Proofs.Ytdbfjakhkclggaa.QFnHolds
open Go.RowKit Go.Proofs.YtdbfjakhkclggaaW.PrintWords Go.Proofs.YtdbfjakhkclggaaW.PrintLast Go.Proofs.YtdbfjakhkclggaaW.PrintMore
attribute [local go_sem] max2_int min2_int max_two min_two max_three min_three max_four min_four Go.Proofs.Ytdbfjakhkclggaa.Set.isSome_setCell Go.Proofs.Ytdbfjakhkclggaa.Add.add64   -- for this text's walks alone
set_option linter.unusedVariables false
set_option linter.unusedSimpArgs false

-- squeezed
theorem u6_0 {P : Prop} (h : P := by repeat (first | (with_reducible first | exact HB.out | apply below_alloc | apply pw_below_drewN | apply below_drew1) | exact HB.out)) : P := h
theorem u6_1 {P : Prop} (h : P := by (with_reducible repeat (first | refine blk_drewN ?_ _ | refine blk_drew ?_ | refine blk_alloc ?_ _)); exact BK3.out) : P := h
theorem u6_2 {P : Prop} (h : P := by (with_reducible repeat (first | refine blk_drewN ?_ _ | refine blk_drew ?_ | refine blk_alloc ?_ _)); exact BK4.out) : P := h
theorem u6_3 {P : Prop} (h : P := by repeat (first | (with_reducible first | exact HB.out | apply below_alloc | apply pw_below_drewN | apply below_drew1 | refine below_set ?_ G3.out | refine below_set ?_ G6.out | refine below_set ?_ G8.out) | exact HB.out)) : P := h
theorem u6_4 {P : Prop} (h : P := by (with_reducible repeat (first | refine blk_drewN ?_ _ | refine blk_drew ?_ | refine blk_alloc ?_ _)); exact BK6.out) : P := h
theorem u6_5 {P : Prop} (h : P := by (with_reducible repeat (first | refine blk_drewN ?_ _ | refine blk_drew ?_ | refine blk_alloc ?_ _)); exact BK5.out) : P := h
theorem u6_6 {P : Prop} (h : P := by first | (with_reducible assumption) | assumption | rfl | (simp [Act.eval, Act.put]; done)) : P := h
theorem u6_7 {P : Prop} (h : P := by repeat (first | (with_reducible first | exact HB.out | apply below_alloc | apply pw_below_drewN | apply below_drew1 | refine below_set ?_ GE172.out | refine below_set ?_ GE173.out) | exact HB.out)) : P := h
theorem u6_8 {P : Prop} (h : P := by repeat (first | (with_reducible first | exact HB.out | apply below_alloc | apply pw_below_drewN | apply below_drew1 | refine below_set ?_ GE180.out) | exact HB.out)) : P := h
theorem u6_9 {P : Prop} (h : P := by (with_reducible repeat (first | refine blk_drewN ?_ _ | refine blk_drew ?_ | refine blk_alloc ?_ _)); exact BK172.out) : P := h
theorem u6_10 {P : Prop} (h : P := by (with_reducible repeat (first | refine blk_drewN ?_ _ | refine blk_drew ?_ | refine blk_alloc ?_ _)); exact BK7.out) : P := h
theorem u6_11 {P : Prop} (h : P := by repeat (first | (with_reducible first | exact HB.out | apply below_alloc | apply pw_below_drewN | apply below_drew1 | refine below_set ?_ GE172.out) | exact HB.out)) : P := h
theorem u6_12 {P : Prop} (h : P := by first | exact hbW | exact (show W.drew.heap[g]? = _ from hbW) | exact (show W.drew.drew.heap[g]? = _ from hbW)) : P := h
theorem u6_13 {P : Prop} (h : P := by repeat (first | exact Kept.refl _ _ | apply Kept.drew)) : P := h
theorem u6_14 {P : Prop} (h : P := by repeat (first | exact HBl.out | apply below_drew)) : P := h
theorem u6_15 {P : Prop} (h : P := by first | (with_reducible assumption) | assumption) : P := h
theorem u6_16 {P : Prop} (h : P := by (with_reducible repeat (first | refine blk_drewN ?_ _ | refine blk_drew ?_ | refine blk_alloc ?_ _)); exact BK173.out) : P := h
theorem u6_17 {P : Prop} (h : P := by (with_reducible repeat (first | refine blk_drewN ?_ _ | refine blk_drew ?_ | refine blk_alloc ?_ _)); exact BK180.out) : P := h
theorem u6_18 {P : Prop} (h : P := by rw [List.length_take]; omega) : P := h
/-! ### impl_copyBook: function 56 -/
def impl_copyBook.f (l0_0 : List (S53)) : Option ((List (S53))) := (some (([] : List (S53)) : List (S53))).bind fun y174 => (if y174.length + l0_0.length < 3518437208883 then (some (y174 ++ l0_0)) else (none))
set_option maxHeartbeats 8000000 in
set_option maxRecDepth 100000 in
theorem impl_copyBook.calls (A0_0 : Option Addr) (c0_0 : Nat) (l0_0 : List (S53)) (r : List (S53)) (w : World) (hr0_0 : Kd.C k53 w A0_0 l0_0.length l0_0) (hc0_0 : l0_0.length ≤ c0_0) (h : impl_copyBook.f l0_0 = some r) :
    Calls Try.prog 56 #[.agg #[.slice A0_0 l0_0.length c0_0]] w fun e w' => ∃ v0_ : Value, e = .returned (.agg #[v0_]) ∧ Kd.R k53 53 w' w.heap.size (fun _ => True) v0_ r ∧ Below w.heap.size w w' := by
  have hu29 := Try.underlying29
  have HR0_0 := Aside0.mk hr0_0
  have HC0_0 := Aside0.mk hc0_0
  clear hr0_0 hc0_0
  have HB := Aside0.mk (Below.refl w.heap.size w)
  have H : ((some (([] : List (S53)) : List (S53))).bind fun y174 => (if y174.length + l0_0.length < 3518437208883 then (some (y174 ++ l0_0)) else (none))) = some r := h
  clear h
  obtain ⟨y174, hy174⟩ : ∃ y_ : List (S53), y_ = (([] : List (S53))) := ⟨_, rfl⟩
  replace H : (if y174.length + l0_0.length < 3518437208883 then (some (y174 ++ l0_0)) else (none)) = some r := by first | (rw [hy174]; with_reducible exact H) | (have H2_ := (Option.bind_some _ _).symm.trans H; rw [hy174]; with_reducible exact H2_) | (have H2_ := (Option.bind_some _ _).symm.trans H; with_reducible exact H2_) | with_reducible exact H | (rw [hy174]; exact H) | exact H
  have Ny174 := Aside0.mk hy174
  clear hy174
  by_cases c2 : y174.length + l0_0.length < 3518437208883
  rotate_left
  · rw [if_neg c2] at H
    exact absurd H (by simp)
  rw [if_pos c2] at H
  have LMc2 := Aside0.mk c2
  clear c2
  obtain ⟨y177, hy177⟩ : ∃ y_ : List (S53), y_ = (y174 ++ l0_0) := ⟨_, rfl⟩
  replace H : (some y177) = some r := by first | (rw [hy177]; with_reducible exact H) | (have H2_ := (Option.bind_some _ _).symm.trans H; rw [hy177]; with_reducible exact H2_) | (have H2_ := (Option.bind_some _ _).symm.trans H; with_reducible exact H2_) | with_reducible exact H | (rw [hy177]; exact H) | exact H
  have Ny177 := Aside0.mk hy177
  clear hy177
  obtain rfl := Option.some.inj H
  go_enter Try.func56, Try.ntmps56
  go_wp2_with (first | ((with_reducible refine gate_dst (N := 1) rfl ?_); refine box_event ?hg (N := 1) ?hd (cs := #[.slice A0_0 l0_0.length c0_0]) (t := 29) ?hr ?_; (case hd => rfl); (case hg => rfl); (case hr => first | (go_simp; done) | (go_simp; rfl)); intro gb172 hg w3 hbox hb; have n0_ := Aside0.mk (below_step u6_0 hb); have n1_ := Aside0.mk (hbox); have n2_ := Aside0.mk ((by rw [hg]; exact (below_size u6_0) : w.heap.size ≤ gb172)); have n3_ := Aside0.mk ((by rw [hg]; exact (below_size u6_0) : w.heap.size ≤ gb172)); clear HB; have HB := n0_; have BK172 := n1_; have GW172 := n2_; have GE172 := n3_; clear n0_ n1_ n2_ n3_; clear hb hbox hg) | ((with_reducible refine gate_dst (N := 2) rfl ?_); refine box_event ?hg (N := 2) ?hd (cs := #[.slice none 0 0]) (t := 29) ?hr ?_; (case hd => rfl); (case hg => rfl); (case hr => first | (go_simp; done) | (go_simp; rfl)); intro gb173 hg w4 hbox hb; have n0_ := Aside0.mk (blk_below (g := gb172) (o := .cells #[.slice A0_0 l0_0.length c0_0] 29 (0, 0)) u6_9 hb); have n1_ := Aside0.mk (below_step u6_11 hb); have n2_ := Aside0.mk (hbox); have n3_ := Aside0.mk ((by rw [hg]; exact (below_size u6_11) : w.heap.size ≤ gb173)); have n4_ := Aside0.mk ((by rw [hg]; exact (below_size u6_11) : w.heap.size ≤ gb173)); have n5_ := Aside0.mk ((by rw [hg]; exact Nat.ne_of_lt (blk_lt (g := gb172) (o := .cells #[.slice A0_0 l0_0.length c0_0] 29 (0, 0)) u6_9) : gb172 ≠ gb173)); have n6_ := Aside0.mk ((by rw [hg]; exact Nat.ne_of_gt (blk_lt (g := gb172) (o := .cells #[.slice A0_0 l0_0.length c0_0] 29 (0, 0)) u6_9) : gb173 ≠ gb172)); clear BK172; clear HB; have BK172 := n0_; have HB := n1_; have BK173 := n2_; have GW173 := n3_; have GE173 := n4_; have NB172_173 := n5_; have NB173_172 := n6_; clear n0_ n1_ n2_ n3_ n4_ n5_ n6_; clear hb hbox hg) | ((with_reducible refine gate_dst (N := 3) rfl ?_); refine Kd.R_lit k53 _ 53 ?hg (N := 3) ?hd (xs := ([] : List (S53))) (inner := []) (ok := fun _ => True) (okp := fun _ => True) ?hr ?hp (fun _ hk => hk) trivial (Below.refl _ _) (Nat.le_refl _) (by simp) ?_; (case hd => rfl); (case hg => rfl); (case hr => first | (go_simp; done) | (go_simp; rfl)); (case hp => exact (Reps.none _ _)); intro v175 w5 ho6 hb hg_ hnew_; clear hg_ hnew_; (first | rw [← Ny174.out] at ho6 | (simp only [Int.reduceToNat] at ho6; rw [← Ny174.out] at ho6)); have n0_ := Aside0.mk (Kd.R_lower ho6 (below_size u6_7)); have n1_ := Aside0.mk (blk_below (g := gb172) (o := .cells #[.slice A0_0 l0_0.length c0_0] 29 (0, 0)) u6_9 hb); have n2_ := Aside0.mk (blk_below (g := gb173) (o := .cells #[.slice none 0 0] 29 (0, 0)) u6_16 hb); have n3_ := Aside0.mk (below_step u6_7 hb); clear BK172; clear BK173; clear HB; have HO176 := n0_; have BK172 := n1_; have BK173 := n2_; have HB := n3_; clear n0_ n1_ n2_ n3_; clear hb ho6; have hnb7 := NB172_173.out; have hnc7 := NB173_172.out; have hcz8_0 : w5.cell? ⟨gb172, 0, none⟩ = some (.slice A0_0 l0_0.length c0_0) := (blk_cell BK172.out 0).trans rfl; have hfz8_0 := blk_frozen BK172.out 0) | ((with_reducible refine gate_builtin (b := .append) (xs := #[.tmp 3, .tmp 5]) rfl ?_); at_builtin; refine Kd.R_append_rows k53 (w0 := w) w.heap.size rfl (.tmp 3) (.tmp 5) 27 53 (.agg #[(.int .u64 0), (.int .u64 0), (.int .u64 0), (.int .u64 0), (.int .i64 0)]) 40 rfl Try.underlying27 info53 rfl (by decide) (by omega) v175 y174 l0_0 _ _ _ (fun _ => True) (fun _ => False) rfl rfl ?aO ?aR (fun _ _ h => h) (fun _ h => h.elim) ?aF ?aB ?aS ?aL ?_; (case aR => repeat (first | exact (Kd.C_below HR0_0.out HB.out) | (with_reducible refine Kd.C_alloc ?_ _) | (with_reducible refine Kd.C_drewN ?_ _) | (with_reducible refine Kd.C_drew ?_))); (case aB => exact u6_7); (case aF => exact (fun _ _ => trivial)); (case aO => exact (by (with_reducible repeat (first | apply Kd.R_alloc | apply Kd.R_drewN | apply Kd.R_drew)); exact HO176.out)); (case aS => exact (below_size u6_7)); (case aL => have := LMc2.out; omega); intro v178 w9 ho hb hg hat; rw [← Ny177.out] at ho; have n0_ := Aside0.mk (blk_grown (g := gb172) (o := .cells #[.slice A0_0 l0_0.length c0_0] 29 (0, 0)) u6_9 hg (Kd.R_ne HO176.out BK172.out (by decide))); have n1_ := Aside0.mk (blk_grown (g := gb173) (o := .cells #[.slice none 0 0] 29 (0, 0)) u6_16 hg (Kd.R_ne HO176.out BK173.out (by decide))); have n2_ := Aside0.mk (hb); have n3_ := Aside0.mk (ho); clear BK172; clear BK173; clear HB; clear HO176; have BK172 := n0_; have BK173 := n1_; have HB := n2_; have HO179 := n3_; clear n0_ n1_ n2_ n3_; clear ho hb hg hat; obtain ⟨Ao10, co10, eo10⟩ := Kd.R_slice HO179.out; subst eo10; have hcz11_0 : w9.cell? ⟨gb173, 0, none⟩ = some (.slice none 0 0) := (blk_cell BK173.out 0).trans rfl; have hfz11_0 := blk_frozen BK173.out 0))
  refine bodyPost_ret (results_cell_row rfl _ _ gb173 29 #[.slice Ao10 y177.length co10] (0, 0) _ rfl (by (with_reducible repeat (first | refine blk_drewN ?_ _ | refine blk_drew ?_ | refine blk_alloc ?_ _)); refine blk_put (cs := #[.slice none 0 0]) ?_ 0 _ rfl; (with_reducible repeat (first | refine blk_drewN ?_ _ | refine blk_drew ?_ | refine blk_alloc ?_ _)); exact BK173.out) Try.underlying29 rfl (by kernel_rfl)) rfl ?_
  exact ⟨_, by first | rfl | (simp [errW_none, errW_some] <;> rfl) | (simp [*, errW_none, errW_some] <;> rfl), (by (with_reducible repeat (first | apply Kd.R_alloc | apply Kd.R_drewN | apply Kd.R_drew)); exact Kd.R_mono (Kd.R_far (p := ⟨gb173, 0, none⟩) (Kd.R_types HO179.out BK173.out (by decide)) (fun _ hk => hk.2) (.slice Ao10 y177.length co10)) (fun _ hk => trivial)), u6_7⟩

/-! ### impl_accountOf: function 57 -/
def impl_accountOf.l0 : Nat → Int → Int → List (S53) → Option (Int × Bool)
  | 0, _, _, _ => none
  | k + 1, x1, x6, x181000 => if x6 < (x181000.length : Int) then (if 0 ≤ x6 then (if ((rd_T53 x181000 x6).f0) < x1 then (impl_accountOf.l0 k x1 (wrap64 (x6 + 1)) x181000) else (some (x6, (((rd_T53 x181000 x6).f0) == x1)))) else (none)) else (some (x6, false))
def impl_accountOf.f (k : Nat) (l0_0 : List (S53)) (a1 : Int) : Option (Int × Bool) := impl_accountOf.l0 k a1 0 l0_0
theorem impl_accountOf.mono_l : ∀ k, (∀ y0 y1 y2, LeO (impl_accountOf.l0 k y0 y1 y2) (impl_accountOf.l0 (k + 1) y0 y1 y2))
  | 0 => fun _ _ _ r h => by simp [impl_accountOf.l0] at h
  | k + 1 => by
    have ih0 := impl_accountOf.mono_l k
    · intro y0 y1 y2
      unfold impl_accountOf.l0
      repeat' first
      | (with_reducible exact ih0 _ _ _)
      | (with_reducible exact LeO.refl _)
      | (with_reducible exact LeO.none _)
      | (with_reducible refine LeO.ite ?_ ?_)
      | (with_reducible refine LeO.bind ?_ (fun _ => ?_))
      | exact ih0 _ _ _
      | exact LeO.none _
      | refine LeO.ite ?_ ?_
      | refine LeO.bind ?_ (fun _ => ?_)
theorem impl_accountOf.mono : ∀ a0 a1 k, LeO (impl_accountOf.f k a0 a1) (impl_accountOf.f (k + 1) a0 a1) := by
  intro a0 a1 k
  have ih0 := impl_accountOf.mono_l k
  unfold impl_accountOf.f
  repeat' first
      | (with_reducible exact ih0 _ _ _)
      | (with_reducible exact LeO.refl _)
      | (with_reducible exact LeO.none _)
      | (with_reducible refine LeO.ite ?_ ?_)
      | (with_reducible refine LeO.bind ?_ (fun _ => ?_))
      | exact ih0 _ _ _
      | exact LeO.none _
      | refine LeO.ite ?_ ?_
      | refine LeO.bind ?_ (fun _ => ?_)
set_option maxHeartbeats 8000000 in
set_option maxRecDepth 100000 in
theorem impl_accountOf.calls (k : Nat) (A0_0 : Option Addr) (c0_0 : Nat) (l0_0 : List (S53)) (a1 : Int) (r1 : Int) (r2 : Bool) (w : World) (hr0_0 : Kd.C k53 w A0_0 l0_0.length l0_0) (hc0_0 : l0_0.length ≤ c0_0) (h : impl_accountOf.f k l0_0 a1 = some (r1, r2)) :
    Calls Try.prog 57 #[.agg #[.slice A0_0 l0_0.length c0_0], .int .u64 a1] w fun e w' => e = .returned (.tuple #[.int .i64 r1, .bool r2]) ∧ Below w.heap.size w w' := by
  have hu29 := Try.underlying29
  have HR0_0 := Aside0.mk hr0_0
  have HC0_0 := Aside0.mk hc0_0
  clear hr0_0 hc0_0
  have HB := Aside0.mk (Below.refl w.heap.size w)
  have H : (impl_accountOf.l0 k a1 0 l0_0) = some (r1, r2) := h
  clear h
  have H' := Aside0.mk H
  clear H
  go_enter Try.func57, Try.ntmps57
  go_wp2_with (first | (first | ((with_reducible refine gate_dst (N := 2) rfl ?_); refine box_event ?hg (N := 2) ?hd (cs := #[.slice A0_0 l0_0.length c0_0]) (t := 29) ?hr ?_; (case hd => rfl); (case hg => rfl); (case hr => first | (go_simp; done) | (go_simp; rfl)); intro gb180 hg w3 hbox hb; have n0_ := Aside0.mk (below_step u6_0 hb); have n1_ := Aside0.mk (hbox); have n2_ := Aside0.mk ((by rw [hg]; exact (below_size u6_0) : w.heap.size ≤ gb180)); have n3_ := Aside0.mk ((by rw [hg]; exact (below_size u6_0) : w.heap.size ≤ gb180)); clear HB; have HB := n0_; have BK180 := n1_; have GW180 := n2_; have GE180 := n3_; clear n0_ n1_ n2_ n3_; clear hb hbox hg)) | go_quiet (fail))
  go_loopg [6] k (fun kq v6 w' => ∃ (x6_1 : Int), v6 = .int .i64 x6_1 ∧ Aside0 (impl_accountOf.l0 kq a1 x6_1 l0_0 = some (r1, r2)) ∧ Aside0 (kq ≤ k) ∧ Aside0 (w'.heap[gb180]? = some (.cells #[(.slice A0_0 l0_0.length c0_0)] 29 (0, 0))) ∧ Aside0 (Below w.heap.size w w'))
  case atStart => exact ⟨(0), (by first | rfl | (simp; done) | (simp [*]; done)), H', ⟨Nat.le_refl _⟩, ⟨u6_17⟩, ⟨u6_8⟩⟩
  clear H'
  try clear p2
  obtain ⟨x6_1, rfl, HA, HK1, BK180, HB⟩ := hrel
  cases gk with
  | zero => exact absurd HA.out (by simp [impl_accountOf.l0])
  | succ k1 =>
    have H := HA.out
    clear HA
    simp only [impl_accountOf.l0] at H
    by_cases c4 : x6_1 < (l0_0.length : Int)
    rotate_left
    · rw [if_neg c4] at H
      have c4b0 : decide (x6_1 < (l0_0.length : Int)) = false := decide_eq_false c4
      clear c4
      simp only [Option.some.injEq, Prod.mk.injEq] at H
      obtain ⟨rfl, rfl⟩ := H
      have hcz9_0 : wr.cell? ⟨gb180, 0, none⟩ = some (.slice A0_0 l0_0.length c0_0) := (blk_cell BK180.out 0).trans rfl
      have hfz9_0 := blk_frozen BK180.out 0
      go_wp2
      repeat (go_quiet (fail); try go_wp2)
      go_ret2
      exact ⟨by first | rfl | (simp [errW_none, errW_some] <;> rfl) | (simp [*, errW_none, errW_some] <;> rfl), u6_8⟩
    rw [if_pos c4] at H
    have c4b0 : decide (x6_1 < (l0_0.length : Int)) = true := decide_eq_true c4
    clear c4
    by_cases c5 : 0 ≤ x6_1
    rotate_left
    · rw [if_neg c5] at H
      exact absurd H (by simp)
    rw [if_pos c5] at H
    have c5b0 : decide (0 ≤ x6_1) = true := decide_eq_true c5
    clear c5
    have H9 := Aside0.mk H
    clear H
    have hcz6_0 : wr.cell? ⟨gb180, 0, none⟩ = some (.slice A0_0 l0_0.length c0_0) := (blk_cell BK180.out 0).trans rfl
    have hfz6_0 := blk_frozen BK180.out 0
    have p181 : 0 ≤ (x6_1 : Int) := of_decide_eq_true u6_15
    have q181 : x6_1 < (l0_0.length : Int) := of_decide_eq_true u6_15
    obtain ⟨ad181, e181, hx181_0, hx181_1, hx181_2, hx181_3, hx181_4⟩ := at_T53 HR0_0.out x6_1 p181 q181
    cases e181
    replace hx181_0 := (HB.out.cell (World.block_lt_of_cell? w _ hx181_0)).trans hx181_0
    replace hx181_1 := (HB.out.cell (World.block_lt_of_cell? w _ hx181_1)).trans hx181_1
    replace hx181_2 := (HB.out.cell (World.block_lt_of_cell? w _ hx181_2)).trans hx181_2
    replace hx181_3 := (HB.out.cell (World.block_lt_of_cell? w _ hx181_3)).trans hx181_3
    replace hx181_4 := (HB.out.cell (World.block_lt_of_cell? w _ hx181_4)).trans hx181_4
    replace p181 := eq_true p181
    replace q181 := eq_true q181
    go_upto_if 21 with (fail)
    repeat (go_quiet (fail); go_upto_if 21 with (fail))
    have H := H9.out
    clear H9
    by_cases c7 : ((rd_T53 l0_0 x6_1).f0) < a1
    · rw [if_pos c7] at H
      have c7b0 : decide (((rd_T53 l0_0 x6_1).f0) < a1) = true := decide_eq_true c7
      clear c7
      (first | rw [c7b0] | (simp only [i64_w, i32_w]; rw [c7b0]) | skip)
      have H' := Aside0.mk H
      clear H
      go_wp2
      repeat (go_quiet (fail); try go_wp2)
      go_roundg k1
      case measure => have := HK1.out; omega
      case rel => exact ⟨(wrap64 (x6_1 + 1)), (by first | rfl | (simp; done) | (simp [*]; done)), H', ⟨by have := HK1.out; omega⟩, ⟨u6_17⟩, ⟨u6_8⟩⟩
    rw [if_neg c7] at H
    have c7b0 : decide (((rd_T53 l0_0 x6_1).f0) < a1) = false := decide_eq_false c7
    clear c7
    (first | rw [c7b0] | (simp only [i64_w, i32_w]; rw [c7b0]) | skip)
    simp only [Option.some.injEq, Prod.mk.injEq] at H
    obtain ⟨rfl, rfl⟩ := H
    have hcz8_0 : wr.cell? ⟨gb180, 0, none⟩ = some (.slice (some ad181) l0_0.length c0_0) := (blk_cell BK180.out 0).trans rfl
    have hfz8_0 := blk_frozen BK180.out 0
    have p182 : 0 ≤ (x6_1 : Int) := of_decide_eq_true u6_15
    have q182 : x6_1 < (l0_0.length : Int) := of_decide_eq_true u6_15
    obtain ⟨ad182, e182, hx182_0, hx182_1, hx182_2, hx182_3, hx182_4⟩ := at_T53 HR0_0.out x6_1 p182 q182
    obtain rfl : ad181 = ad182 := (by injection e182)
    replace hx182_0 := (HB.out.cell (World.block_lt_of_cell? w _ hx182_0)).trans hx182_0
    replace hx182_1 := (HB.out.cell (World.block_lt_of_cell? w _ hx182_1)).trans hx182_1
    replace hx182_2 := (HB.out.cell (World.block_lt_of_cell? w _ hx182_2)).trans hx182_2
    replace hx182_3 := (HB.out.cell (World.block_lt_of_cell? w _ hx182_3)).trans hx182_3
    replace hx182_4 := (HB.out.cell (World.block_lt_of_cell? w _ hx182_4)).trans hx182_4
    replace p182 := eq_true p182
    replace q182 := eq_true q182
    go_wp2
    repeat (go_quiet (fail); try go_wp2)
    go_ret2
    exact ⟨by first | rfl | (simp [errW_none, errW_some] <;> rfl) | (simp [*, errW_none, errW_some] <;> rfl), u6_8⟩

/-! ### impl_Account: function 78 -/
def impl_Account.enc (x : S53) : List Value := [.int .u64 x.f0, .int .u64 x.f1, .int .u64 x.f2, .int .u64 x.f3, .int .i64 x.f4]
theorem impl_Account.flat : Go.Proofs.Ytdbfjakhkclggaa.Slc.Flat k53 impl_Account.enc := ⟨fun w base ok x => k53_mkM w base ok x, fun h => k53_open h⟩
def impl_Account.f (l0 : List (S53)) (a1 : Int) (a2 : Int) : Option (List (S53)) := if 0 ≤ a1 ∧ a2 = a1 + 1 ∧ a1 < (l0.length : Int) then some (l0.eraseIdx a1.toNat) else none
theorem impl_Account.size : (Try.prog.info? 53).map (·.size) = some 5 := by kernel_rfl
theorem impl_Account.zero (w : World) : (zeroValue 53).run Try.prog w = .ok (.agg #[.int .u64 0, .int .u64 0, .int .u64 0, .int .u64 0, .int .i64 0]) w := by kernel_rfl
set_option maxHeartbeats 2000000 in
set_option maxRecDepth 100000 in
theorem impl_Account.calls (P0_ : Nat → Prop) (u9000_ : Value) (l0 : List (S53)) (a1 : Int) (a2 : Int) (r : List (S53)) (w0 w : World) (hB : Below w0.heap.size w0 w) (ho0 : Kd.R k53 53 w w0.heap.size P0_ u9000_ l0) (h : impl_Account.f l0 a1 a2 = some r) :
    Calls Try.prog 78 #[u9000_, .int .i64 a1, .int .i64 a2] w fun e w' => ∃ v0_ : Value, e = .returned (v0_) ∧ Kd.R k53 53 w' w0.heap.size (fun k_ => (P0_ k_ ∨ w.heap.size ≤ k_)) v0_ r ∧ Below w0.heap.size w0 w' ∧ Kept w w' (fun k_ => P0_ k_) := by
  unfold impl_Account.f at h
  by_cases hc : 0 ≤ a1 ∧ a2 = a1 + 1 ∧ a1 < (l0.length : Int)
  rotate_left
  · rw [if_neg hc] at h; cases h
  rw [if_pos hc] at h
  obtain rfl := Option.some.inj h
  clear h
  obtain ⟨h0, rfl, hlt⟩ := hc
  obtain ⟨i, rfl⟩ := Int.eq_ofNat_of_zero_le h0
  have hi : i < l0.length := by omega
  obtain ⟨g, cap, cur, hv, hg, hP, hb, hcap, hm, hs, ht⟩ := impl_Account.flat.block ho0 (by omega)
  subst hv
  obtain ⟨n, hn⟩ : ∃ n, n = l0.length := ⟨_, rfl⟩
  unfold maxLen at hm
  have hm63 := hm
  have HO := Aside0.mk (Kd.R_mono ho0 (ok' := fun k_ => P0_ k_ ∨ w.heap.size ≤ k_) (fun k hk => .inl hk))
  have HB := Aside0.mk hB
  have HG := Aside0.mk hg
  have HP := Aside0.mk hP
  have HN := Aside0.mk hn
  rw [← hn] at HO ⊢
  rw [← hn] at hi hcap
  clear ho0 hB hg hP hb hs ht hn h0 hlt
  have e1 : (i : Int) + 1 = ((i + 1 : Nat) : Int) := by omega
  rw [Int.toNat_natCast]
  have p1 : (i : Int) ≤ ((i + 1 : Nat) : Int) := by omega
  have p2 : ((i + 1 : Nat) : Int) ≤ (n : Int) := by omega
  have p3 : ¬ ((i : Int) = ((i + 1 : Nat) : Int)) := by omega
  rw [e1]
  clear e1
  have hsz := impl_Account.size
  have hdr : Aside0 (Kd.R k53 53 w.drew w0.heap.size (fun k_ => P0_ k_ ∨ w.heap.size ≤ k_) (.slice (some ⟨g, 0, none⟩) n cap) l0) := ⟨HO.out⟩
  have hbd : Aside0 (Below w0.heap.size w0 w.drew) := ⟨below_drew HB.out⟩
  clear HO
  have hic : i ≤ cap := by omega
  have hjc : i + 1 ≤ cap := by omega
  have hq : (i : Int) ≤ (i : Int) + 1 := by omega
  have hr0 : (0 : Int) ≤ (i : Int) + 1 := by omega
  have hr1 : (i : Int) + 1 ≤ (n : Int) := by omega
  by_cases hce : cap = i + 1
  · subst hce
    clear hic hjc
    go_enter Try.func78, Try.ntmps78
    go_wp2_with (fail)
    go_region_law (refine Kd.R_delete_step k53 (w0 := w0) w0.heap.size (by simp [Region.wanted]) (.tmp 22) (.tmp 25) 27 53 rfl Try.underlying27 hsz (g := g) (n := n) (c := i + 1) (k := i) (m := n - (i + 1)) (c2 := 0) (A := some ⟨g, 0, none⟩) (by simp [Act.eval, Act.put]) (by simp [Act.eval, Act.put]; omega) (by simp) rfl hdr.out hi hbd.out hbd.out.size ?_; intro w1 hr hb hgw)
    have hcn : ¬ ((i + 1) = n - 1) := by omega
    have hnn : n - 1 ≤ n := by omega
    have hk1 : ((n - 1 : Nat) : Int) ≤ (n : Int) := by omega
    obtain ⟨hl1, _, hok1, _, _, cur1, hb1, hs1, ht1⟩ := impl_Account.flat.blockG hr
    have hsz3 : (k53).sz = 5 := rfl
    have hcl : ∀ ty, (Builtin.clear_ #[27] ty #[.slice (some ⟨g, (n - 1) * 5, none⟩) (n - (n - 1)) ((i + 1) - (n - 1))]).run Try.prog w1 = .ok (.tuple #[]) (w1.setCells g ((n - 1) * 5) (.agg #[.int .u64 0, .int .u64 0, .int .u64 0, .int .u64 0, .int .i64 0] : Value).cells.toList) := fun ty => by
      rw [show n - (n - 1) = 1 by omega]
      refine Go.Proofs.Ytdbfjakhkclggaa.Slc.run_clear_one w1 _ 53 ty _ Try.underlying27 impl_Account.zero g _ _ (by decide) (fun j hj => ?_) (fun j hj => blk_frozen hb1 _)
      have hj' : j < 5 := hj
      rw [blk_cell hb1, Array.getElem?_eq_getElem (by rw [hs1, hsz3]; omega)]
      rfl
    obtain ⟨W2, hW2⟩ : ∃ W2, W2 = w1.setCells g ((n - 1) * 5) (.agg #[.int .u64 0, .int .u64 0, .int .u64 0, .int .u64 0, .int .i64 0] : Value).cells.toList := ⟨_, rfl⟩
    rw [← hW2] at hcl
    obtain ⟨cur2, hb2, hs2, hk2, _⟩ := Go.Proofs.Ytdbfjakhkclggaa.Slc.setCells_blk g 53 (.agg #[.int .u64 0, .int .u64 0, .int .u64 0, .int .u64 0, .int .i64 0] : Value).cells.toList ((n - 1) * 5) w1 cur1 hb1
    rw [← hW2] at hb2
    have hR : Kd.R k53 53 W2 w0.heap.size (fun k_ => (P0_ k_ ∨ w.heap.size ≤ k_)) (.slice (some ⟨g, 0, none⟩) (n - 1) (i + 1)) (l0.eraseIdx i) := by
      refine impl_Account.flat.row hb2 HG.out hok1 hl1.symm (by omega) (by unfold maxLen; omega) (hs2.trans hs1) ?_
      rw [← ht1, ← hl1]
      apply List.ext_getElem?
      intro q
      by_cases hq : q < (n - 1) * (k53).sz
      · rw [List.getElem?_take_of_lt hq, List.getElem?_take_of_lt hq, Array.getElem?_toList, Array.getElem?_toList]
        exact hk2 q (.inl (by rw [hsz3] at hq; exact hq))
      · rw [List.getElem?_eq_none u6_18, List.getElem?_eq_none u6_18]
    have hBel : Below w0.heap.size w0 W2 := by rw [hW2]; exact Go.Proofs.Ytdbfjakhkclggaa.Slc.below_setCells HG.out _ _ hb
    have hKp : Kept w W2 (fun k_ => P0_ k_) := by
      rw [hW2]
      exact Go.Proofs.Ytdbfjakhkclggaa.Slc.kept_setCells (.inl HP.out) _ _ (Kept.of_grown (W := w.drew) hgw (Kept.drew (Kept.refl w _)) (fun k hk => .inl (by injection hk with hk; exact hk ▸ HP.out)))
    have HR := Aside0.mk hR
    have HBe := Aside0.mk hBel
    have HKp := Aside0.mk hKp
    clear hR hBel hKp hr hb hgw hb1 hs1 ht1 hb2 hs2 hk2 hW2 hl1 hok1 hsz3
    go_wp2
    go_ret
    exact ⟨_, rfl, HR.out, HBe.out, HKp.out⟩
  go_enter Try.func78, Try.ntmps78
  go_wp2_with (fail)
  go_region_law (refine Kd.R_delete_step k53 (w0 := w0) w0.heap.size (by simp [Region.wanted]) (.tmp 22) (.tmp 25) 27 53 rfl Try.underlying27 hsz (g := g) (n := n) (c := cap) (k := i) (m := n - (i + 1)) (c2 := cap - (i + 1)) (A := some ⟨g, (i + 1) * 5, none⟩) (by simp [Act.eval, Act.put]) (by simp [Act.eval, Act.put]) (by rw [if_neg hce]; simp only [Option.map_some, add_plain]; first | done | rfl) rfl hdr.out hi hbd.out hbd.out.size ?_; intro w1 hr hb hgw)
  have hcn : ¬ (cap = n - 1) := by omega
  have hnn : n - 1 ≤ n := by omega
  have hk1 : ((n - 1 : Nat) : Int) ≤ (n : Int) := by omega
  obtain ⟨hl1, _, hok1, _, _, cur1, hb1, hs1, ht1⟩ := impl_Account.flat.blockG hr
  have hsz3 : (k53).sz = 5 := rfl
  have hcl : ∀ ty, (Builtin.clear_ #[27] ty #[.slice (some ⟨g, (n - 1) * 5, none⟩) (n - (n - 1)) (cap - (n - 1))]).run Try.prog w1 = .ok (.tuple #[]) (w1.setCells g ((n - 1) * 5) (.agg #[.int .u64 0, .int .u64 0, .int .u64 0, .int .u64 0, .int .i64 0] : Value).cells.toList) := fun ty => by
    rw [show n - (n - 1) = 1 by omega]
    refine Go.Proofs.Ytdbfjakhkclggaa.Slc.run_clear_one w1 _ 53 ty _ Try.underlying27 impl_Account.zero g _ _ (by decide) (fun j hj => ?_) (fun j hj => blk_frozen hb1 _)
    have hj' : j < 5 := hj
    rw [blk_cell hb1, Array.getElem?_eq_getElem (by rw [hs1, hsz3]; omega)]
    rfl
  obtain ⟨W2, hW2⟩ : ∃ W2, W2 = w1.setCells g ((n - 1) * 5) (.agg #[.int .u64 0, .int .u64 0, .int .u64 0, .int .u64 0, .int .i64 0] : Value).cells.toList := ⟨_, rfl⟩
  rw [← hW2] at hcl
  obtain ⟨cur2, hb2, hs2, hk2, _⟩ := Go.Proofs.Ytdbfjakhkclggaa.Slc.setCells_blk g 53 (.agg #[.int .u64 0, .int .u64 0, .int .u64 0, .int .u64 0, .int .i64 0] : Value).cells.toList ((n - 1) * 5) w1 cur1 hb1
  rw [← hW2] at hb2
  have hR : Kd.R k53 53 W2 w0.heap.size (fun k_ => (P0_ k_ ∨ w.heap.size ≤ k_)) (.slice (some ⟨g, 0, none⟩) (n - 1) cap) (l0.eraseIdx i) := by
    refine impl_Account.flat.row hb2 HG.out hok1 hl1.symm (by omega) (by unfold maxLen; omega) (hs2.trans hs1) ?_
    rw [← ht1, ← hl1]
    apply List.ext_getElem?
    intro q
    by_cases hq : q < (n - 1) * (k53).sz
    · rw [List.getElem?_take_of_lt hq, List.getElem?_take_of_lt hq, Array.getElem?_toList, Array.getElem?_toList]
      exact hk2 q (.inl (by rw [hsz3] at hq; exact hq))
    · rw [List.getElem?_eq_none u6_18, List.getElem?_eq_none u6_18]
  have hBel : Below w0.heap.size w0 W2 := by rw [hW2]; exact Go.Proofs.Ytdbfjakhkclggaa.Slc.below_setCells HG.out _ _ hb
  have hKp : Kept w W2 (fun k_ => P0_ k_) := by
    rw [hW2]
    exact Go.Proofs.Ytdbfjakhkclggaa.Slc.kept_setCells (.inl HP.out) _ _ (Kept.of_grown (W := w.drew) hgw (Kept.drew (Kept.refl w _)) (fun k hk => .inl (by injection hk with hk; exact hk ▸ HP.out)))
  have HR := Aside0.mk hR
  have HBe := Aside0.mk hBel
  have HKp := Aside0.mk hKp
  clear hR hBel hKp hr hb hgw hb1 hs1 ht1 hb2 hs2 hk2 hW2 hl1 hok1 hsz3
  go_wp2
  go_ret
  exact ⟨_, rfl, HR.out, HBe.out, HKp.out⟩


/-! ### impl_change: function 60 -/
def impl_change.enc (x : S53) : List Value := [.int .u64 x.f0, .int .u64 x.f1, .int .u64 x.f2, .int .u64 x.f3, .int .i64 x.f4]
theorem impl_change.flat : Go.Proofs.Ytdbfjakhkclggaa.Slc.Flat k53 impl_change.enc := ⟨fun w base ok x => k53_mkM w base ok x, fun h => k53_open h⟩
/-- What 'change' makes of a book, g being what the literal makes of an account, and its code. -/
def impl_change.cf (g : S53 → S53 × Int) (k : Nat) (l0 : List S53) (a1 : Int) : Option (List S53 × Int) :=
  if l0.length < 2000000 then (impl_isBook.f k l0).bind fun b => (if b = true then (impl_accountOf.f k l0 a1).bind fun y => (if y.2 = true then (if 0 ≤ y.1 ∧ y.1 < (l0.length : Int) then (if (g (l0.getD y.1.toNat z53)).2 = 0 then (if (g (l0.getD y.1.toNat z53)).1.f4 = -1 then some ((l0.set y.1.toNat (g (l0.getD y.1.toNat z53)).1).eraseIdx y.1.toNat, 0) else some (l0.set y.1.toNat (g (l0.getD y.1.toNat z53)).1, 0)) else some (l0, (g (l0.getD y.1.toNat z53)).2)) else none) else some (l0, 2)) else some (l0, 1)) else none
theorem impl_change.cf_mono (g : S53 → S53 × Int) (l0 : List S53) (a1 : Int) (k : Nat) : LeO (impl_change.cf g k l0 a1) (impl_change.cf g (k + 1) l0 a1) := by
  unfold impl_change.cf
  refine LeO.ite (LeO.bind (impl_isBook.mono _ k) fun b => LeO.ite (LeO.bind (impl_accountOf.mono _ _ k) fun y => LeO.refl _) (LeO.refl _)) (LeO.refl _)
theorem impl_change.own {w : World} {base : Nat} {ok : Nat → Prop} {g n cap : Nat} {l : List S53} (h : Kd.R k53 53 w base ok (.slice (some ⟨g, 0, none⟩) n cap) l) : Kd.R k53 53 w base (fun k => k = g) (.slice (some ⟨g, 0, none⟩) n cap) l := by
  obtain ⟨h1, h2, _, h4, h5, cur, h6, h7, h8⟩ := impl_change.flat.blockG h
  exact impl_change.flat.row h6 h2 rfl h1.symm h4 h5 h7 (by rw [h1]; exact h8)
set_option maxHeartbeats 8000000 in
set_option maxRecDepth 100000 in
theorem impl_change.gen (F : Nat) (bs : Array Value) (g : S53 → S53 × Int) (k : Nat) (A0 : Option Addr) (c0 : Nat) (l0 : List S53) (a1 : Int) (r1 : List S53) (r2 : Int) (w : World) (hr0 : Kd.C k53 w A0 l0.length l0) (hc0 : l0.length ≤ c0)
    (HL : ∀ (i g1 c1 : Nat) (W : World), i < l0.length → w.heap.size ≤ g1 → Below w.heap.size w W → Kd.R k53 53 W w.heap.size (fun k => k = g1) (.slice (some ⟨g1, 0, none⟩) l0.length c1) l0 →
      Calls Try.prog F (#[.pointer (some ⟨g1, i * 5, none⟩)] ++ bs) W fun e w' => e = .returned (.int .i64 (g (l0.getD i z53)).2) ∧ Kd.R k53 53 w' w.heap.size (fun k => k = g1) (.slice (some ⟨g1, 0, none⟩) l0.length c1) (l0.set i (g (l0.getD i z53)).1) ∧ Below w.heap.size w w' ∧ Kept W w' (fun k => k = g1))
    (e9_ : ∀ args w, (callFunc F args).run Try.prog w = .ok (.enter F args) w) (h : impl_change.cf g k l0 a1 = some (r1, r2)) :
    Calls Try.prog 60 #[.agg #[.slice A0 l0.length c0], .int .u64 a1, .func (.func F) #[] bs] w fun e w' => ∃ v0_ : Value, e = .returned (.tuple #[.agg #[v0_], .int .i64 r2]) ∧ Kd.R k53 53 w' w.heap.size (fun _ => True) v0_ r1 ∧ Below w.heap.size w w' := by
  have hu := Try.underlying29
  have hu2 := Try.underlying27
  have hu3 := Try.underlying53
  have HR := Aside0.mk hr0
  have HC := Aside0.mk hc0
  have HB := Aside0.mk (Below.refl w.heap.size w)
  unfold impl_change.cf at h
  by_cases hl : l0.length < 2000000
  rotate_left
  · rw [if_neg hl] at h; cases h
  rw [if_pos hl] at h
  have hcopy : impl_copyBook.f l0 = some l0 := by
    unfold impl_copyBook.f
    show (if ([] : List S53).length + l0.length < 3518437208883 then some ([] ++ l0) else none) = some l0
    rw [if_pos (by simp; omega), List.nil_append]
  obtain ⟨b, hb, h⟩ := Option.bind_eq_some_iff.1 h
  have HCOPY := Aside0.mk hcopy
  have HIS := Aside0.mk hb
  have HLT := Aside0.mk hl
  have HLL := Aside0.mk HL
  clear hr0 hc0 hcopy hb hl HL
  go_enter Try.func60, Try.ntmps60
  go_upto_if 16 with (first | ((with_reducible refine gate_dst (N := 3) rfl ?_); refine box_event ?hg (N := 3) ?hd (cs := #[.slice A0 l0.length c0]) (t := 29) ?hr ?_; (case hd => rfl); (case hg => rfl); (case hr => first | (go_simp; done) | (go_simp; rfl)); intro gb3 hg w3 hbox hb; have n0_ := Aside0.mk (below_step u6_3 hb); have n1_ := Aside0.mk (show w.heap.size ≤ gb3 by rw [hg]; exact (below_size u6_3)); have n2_ := Aside0.mk hbox; clear HB; have HB := n0_; have G3 := n1_; have BK3 := n2_; clear n0_ n1_ n2_; clear hbox hg hb; (try clear c3_ f3_); have c3_ : w3.cell? ⟨gb3, 0, none⟩ = some (.slice A0 l0.length c0) := (blk_cell BK3.out 0).trans rfl; have f3_ := blk_frozen BK3.out 0) | ((with_reducible refine gate_dst (N := 6) rfl ?_); refine box_event ?hg (N := 6) ?hd (cs := #[.slice none 0 0]) (t := 29) ?hr ?_; (case hd => rfl); (case hg => rfl); (case hr => first | (go_simp; done) | (go_simp; rfl)); intro gb6 hg w6 hbox hb; have n0_ := Aside0.mk (below_step u6_3 hb); have n1_ := Aside0.mk (show w.heap.size ≤ gb6 by rw [hg]; exact (below_size u6_3)); have n2_ := Aside0.mk hbox; have m3_ := Aside0.mk (blk_below (g := gb3) (o := .cells #[.slice A0 l0.length c0] 29 (0, 0)) u6_1 hb); have N3_6 := (show gb3 ≠ gb6 by rw [hg]; exact Nat.ne_of_lt (blk_lt (g := gb3) (o := .cells #[.slice A0 l0.length c0] 29 (0, 0)) u6_1)); have N6_3 := (N3_6).symm; clear HB; have HB := n0_; have G6 := n1_; have BK6 := n2_; clear n0_ n1_ n2_; clear BK3; have BK3 := m3_; clear m3_; clear hbox hg hb; (try clear c3_ f3_); have c3_ : w6.cell? ⟨gb3, 0, none⟩ = some (.slice A0 l0.length c0) := (blk_cell BK3.out 0).trans rfl; have f3_ := blk_frozen BK3.out 0; (try clear c6_ f6_); have c6_ : w6.cell? ⟨gb6, 0, none⟩ = some (.slice none 0 0) := (blk_cell BK6.out 0).trans rfl; have f6_ := blk_frozen BK6.out 0) | ((with_reducible refine gate_callee (f := 56) rfl ?_); refine goesL_ (some 13) rfl rfl Try.func56 (by kernel_rfl) rfl #[.agg #[.slice A0 l0.length c0]] rfl u6_6 ?_; (with_reducible refine (impl_copyBook.calls _ _ l0 l0 _ ?side1 ?side2 HCOPY.out).mono ?_); (case side1 => exact (by repeat (first | exact (Kd.C_below HR.out u6_3) | (with_reducible refine Kd.C_alloc ?_ _) | (with_reducible refine Kd.C_drewN ?_ _) | (with_reducible refine Kd.C_drew ?_)))); (case side2 => exact HC.out); rintro e w7 ⟨v7, rfl, ho0, hb⟩; refine ⟨_, rfl, ?_⟩; have n0_ := Aside0.mk (Kd.R_lower ho0 (below_size u6_3)); have n1_ := Aside0.mk (below_step u6_3 hb); have m3_ := Aside0.mk (blk_below (g := gb3) (o := .cells #[.slice A0 l0.length c0] 29 (0, 0)) u6_1 hb); have m6_ := Aside0.mk (blk_below (g := gb6) (o := .cells #[.slice none 0 0] 29 (0, 0)) u6_4 hb); clear HB BK3 BK6; have HO := n0_; have HB := n1_; have BK3 := m3_; have BK6 := m6_; clear n0_ n1_ m3_ m6_; clear ho0 hb) | ((with_reducible refine gate_dst (N := 8) rfl ?_); refine box_event ?hg (N := 8) ?hd (cs := #[.slice none 0 0]) (t := 29) ?hr ?_; (case hd => rfl); (case hg => rfl); (case hr => first | (go_simp; done) | (go_simp; rfl)); intro gb8 hg w8 hbox hb; have n0_ := Aside0.mk (below_step u6_3 hb); have n1_ := Aside0.mk (show w.heap.size ≤ gb8 by rw [hg]; exact (below_size u6_3)); have n2_ := Aside0.mk hbox; have m3_ := Aside0.mk (blk_below (g := gb3) (o := .cells #[.slice A0 l0.length c0] 29 (0, 0)) u6_1 hb); have N3_8 := (show gb3 ≠ gb8 by rw [hg]; exact Nat.ne_of_lt (blk_lt (g := gb3) (o := .cells #[.slice A0 l0.length c0] 29 (0, 0)) u6_1)); have N8_3 := (N3_8).symm; have m6_ := Aside0.mk (blk_below (g := gb6) (o := .cells #[.slice none 0 0] 29 (0, 0)) u6_4 hb); have N6_8 := (show gb6 ≠ gb8 by rw [hg]; exact Nat.ne_of_lt (blk_lt (g := gb6) (o := .cells #[.slice none 0 0] 29 (0, 0)) u6_4)); have N8_6 := (N6_8).symm; have m0_ := Aside0.mk (Kd.R_below (by (with_reducible repeat (first | apply Kd.R_alloc | apply Kd.R_drewN | apply Kd.R_drew)); exact HO.out) hb); clear HO; have HO := m0_; clear m0_; obtain ⟨A1, c1, ev1⟩ := Kd.R_slice HO.out; subst ev1; clear HB; have HB := n0_; have G8 := n1_; have BK8 := n2_; clear n0_ n1_ n2_; clear BK3; have BK3 := m3_; clear m3_; clear BK6; have BK6 := m6_; clear m6_; clear hbox hg hb; (try clear c3_ f3_); have c3_ : w8.cell? ⟨gb3, 0, none⟩ = some (.slice A0 l0.length c0) := (blk_cell BK3.out 0).trans rfl; have f3_ := blk_frozen BK3.out 0; (try clear c6_ f6_); have c6_ : w8.cell? ⟨gb6, 0, none⟩ = some (.slice none 0 0) := (blk_cell BK6.out 0).trans rfl; have f6_ := blk_frozen BK6.out 0; (try clear c8_ f8_); have c8_ : w8.cell? ⟨gb8, 0, none⟩ = some (.slice none 0 0) := (blk_cell BK8.out 0).trans rfl; have f8_ := blk_frozen BK8.out 0) | ((with_reducible refine gate_callee (f := 50) rfl ?_); refine goesL_ (some 15) rfl rfl Try.func50 (by kernel_rfl) rfl #[.agg #[.slice A0 l0.length c0]] rfl u6_6 ?_; (with_reducible refine (impl_isBook.calls k _ _ l0 _ _ ?side1 ?side2 HIS.out).mono ?_); (case side1 => exact Kd.C_below HR.out (below_set HB.out G8.out)); (case side2 => exact HC.out); rintro e w9 ⟨rfl, hb⟩; refine ⟨_, rfl, ?_⟩; have n0_ := Aside0.mk (Kd.R_below (Kd.R_mono (ok' := fun _ => True) (Kd.R_far (p := ⟨gb8, 0, none⟩) (Kd.R_types HO.out BK8.out (by decide)) (fun _ hk => hk.2) (.slice A1 l0.length c1)) (fun _ _ => trivial)) hb); have n1_ := Aside0.mk (below_step (below_set HB.out G8.out) hb); have m3_ := Aside0.mk (blk_below (g := gb3) (o := .cells #[.slice A0 l0.length c0] 29 (0, 0)) (blk_far BK3.out N3_8 _) hb); have m6_ := Aside0.mk (blk_below (g := gb6) (o := .cells #[.slice none 0 0] 29 (0, 0)) (blk_far BK6.out N6_8 _) hb); have m8_ := Aside0.mk (blk_below (g := gb8) (o := .cells #[.slice A1 l0.length c1] 29 (0, 0)) (blk_put (cs := #[.slice none 0 0]) BK8.out 0 _ rfl) hb); clear HO HB BK3 BK6 BK8; have HO := n0_; have HB := n1_; have BK3 := m3_; have BK6 := m6_; have BK8 := m8_; clear n0_ n1_ m3_ m6_ m8_; clear hb; (try clear c3_ f3_); have c3_ : w9.cell? ⟨gb3, 0, none⟩ = some (.slice A0 l0.length c0) := (blk_cell BK3.out 0).trans rfl; have f3_ := blk_frozen BK3.out 0; (try clear c6_ f6_); have c6_ : w9.cell? ⟨gb6, 0, none⟩ = some (.slice none 0 0) := (blk_cell BK6.out 0).trans rfl; have f6_ := blk_frozen BK6.out 0; (try clear c8_ f8_); have c8_ : w9.cell? ⟨gb8, 0, none⟩ = some (.slice A1 l0.length c1) := (blk_cell BK8.out 0).trans rfl; have f8_ := blk_frozen BK8.out 0))
  cases b with
  | false =>
    rw [if_neg (by decide)] at h
    obtain ⟨rfl, rfl⟩ : l0 = r1 ∧ 1 = r2 := by injection h with h; injection h with h1 h2; exact ⟨h1, h2⟩
    clear h
    go_wp2
    refine bodyPost_ret (results_ct rfl _ _ gb6 29 #[.slice A1 l0.length c1] (0, 0) _ rfl (blk_put (cs := #[.slice none 0 0]) BK6.out 0 _ rfl) Try.underlying29 rfl (by kernel_rfl)) rfl ?_
    exact ⟨_, rfl, Kd.R_mono (Kd.R_far (p := ⟨gb6, 0, none⟩) (Kd.R_types HO.out BK6.out (by decide)) (fun _ hk => hk.2) _) (fun _ _ => trivial), below_set HB.out G6.out⟩
  | true =>
    rw [if_pos rfl] at h
    obtain ⟨⟨I, y2⟩, hy, h⟩ := Option.bind_eq_some_iff.1 h
    have HAC := Aside0.mk hy
    clear hy
    go_upto_if 25 with (first | ((with_reducible refine gate_callee (f := 57) rfl ?_); refine goesL_ (some 21) rfl rfl Try.func57 (by kernel_rfl) rfl #[.agg #[.slice A0 l0.length c0], .int .u64 a1] rfl u6_6 ?_; (with_reducible refine (impl_accountOf.calls k _ _ l0 a1 _ _ _ ?side1 ?side2 HAC.out).mono ?_); (case side1 => exact Kd.C_below HR.out HB.out); (case side2 => exact HC.out); rintro e w10 ⟨rfl, hb⟩; refine ⟨_, rfl, ?_⟩; have n0_ := Aside0.mk (Kd.R_below HO.out hb); have n1_ := Aside0.mk (below_step HB.out hb); have m3_ := Aside0.mk (blk_below (g := gb3) (o := .cells #[.slice A0 l0.length c0] 29 (0, 0)) BK3.out hb); have m6_ := Aside0.mk (blk_below (g := gb6) (o := .cells #[.slice none 0 0] 29 (0, 0)) BK6.out hb); have m8_ := Aside0.mk (blk_below (g := gb8) (o := .cells #[.slice A1 l0.length c1] 29 (0, 0)) BK8.out hb); clear HO HB BK3 BK6 BK8; have HO := n0_; have HB := n1_; have BK3 := m3_; have BK6 := m6_; have BK8 := m8_; clear n0_ n1_ m3_ m6_ m8_; clear hb; (try clear c3_ f3_); have c3_ : w10.cell? ⟨gb3, 0, none⟩ = some (.slice A0 l0.length c0) := (blk_cell BK3.out 0).trans rfl; have f3_ := blk_frozen BK3.out 0; (try clear c6_ f6_); have c6_ : w10.cell? ⟨gb6, 0, none⟩ = some (.slice none 0 0) := (blk_cell BK6.out 0).trans rfl; have f6_ := blk_frozen BK6.out 0; (try clear c8_ f8_); have c8_ : w10.cell? ⟨gb8, 0, none⟩ = some (.slice A1 l0.length c1) := (blk_cell BK8.out 0).trans rfl; have f8_ := blk_frozen BK8.out 0))
    cases y2 with
    | false =>
      rw [if_neg (by simp)] at h
      obtain ⟨rfl, rfl⟩ : l0 = r1 ∧ 2 = r2 := by injection h with h; injection h with h1 h2; exact ⟨h1, h2⟩
      clear h
      go_wp2
      refine bodyPost_ret (results_ct rfl _ _ gb6 29 #[.slice A1 l0.length c1] (0, 0) _ rfl (blk_put (cs := #[.slice none 0 0]) BK6.out 0 _ rfl) Try.underlying29 rfl (by kernel_rfl)) rfl ?_
      exact ⟨_, rfl, Kd.R_mono (Kd.R_far (p := ⟨gb6, 0, none⟩) (Kd.R_types HO.out BK6.out (by decide)) (fun _ hk => hk.2) _) (fun _ _ => trivial), below_set HB.out G6.out⟩
    | true =>
      rw [if_pos rfl] at h
      by_cases hI : 0 ≤ I ∧ I < (l0.length : Int)
      rotate_left
      · rw [if_neg hI] at h; cases h
      rw [if_pos hI] at h
      obtain ⟨i, rfl⟩ := Int.eq_ofNat_of_zero_le hI.1
      have hi : i < l0.length := by omega
      have p1 := eq_true (show 0 ≤ (i : Int) from hI.1)
      have p2 := eq_true (show (i : Int) < (l0.length : Int) from hI.2)
      have p3 : (i : Int).toNat = i := Int.toNat_natCast i
      rw [p3] at h
      obtain ⟨Y, hY⟩ : ∃ Y, Y = g (l0.getD i z53) := ⟨_, rfl⟩
      rw [← hY] at h
      have HLIT : Aside0 (∀ (g1 c1 : Nat) (W : World), w.heap.size ≤ g1 → Below w.heap.size w W → Kd.R k53 53 W w.heap.size (fun k => k = g1) (.slice (some ⟨g1, 0, none⟩) l0.length c1) l0 →
          Calls Try.prog F (#[.pointer (some ⟨g1, i * 5, none⟩)] ++ bs) W fun e w' => e = .returned (.int .i64 Y.2) ∧ Kd.R k53 53 w' w.heap.size (fun k => k = g1) (.slice (some ⟨g1, 0, none⟩) l0.length c1) (l0.set i Y.1) ∧ Below w.heap.size w w' ∧ Kept W w' (fun k => k = g1)) := ⟨fun g1 c1 W hg hB ho => by
        rw [hY]
        exact HLL.out i g1 c1 W hi hg hB ho⟩
      clear HLL
      clear hY hI
      have HI := Aside0.mk hi
      clear hi
      obtain ⟨g1, c1, ev1, hg1, _, _, _⟩ := Kd.R_form HO.out (by have := HI.out; omega)
      cases ev1
      have HG1 := Aside0.mk hg1
      clear hg1
      go_upto_if 34 with (first | (go_at_fn F; refine (HLIT.out g1 c1 _ HG1.out HB.out (impl_change.own HO.out)).mono ?_; rintro e w11 ⟨rfl, ho, hb, hk⟩; have NG3 : gb3 ≠ g1 := fun e => Kd.R_ne HO.out BK3.out (by decide) (by rw [e]; rfl); have NG6 : gb6 ≠ g1 := fun e => Kd.R_ne HO.out BK6.out (by decide) (by rw [e]; rfl); have NG8 : gb8 ≠ g1 := fun e => Kd.R_ne HO.out BK8.out (by decide) (by rw [e]; rfl); have m3_ := Aside0.mk (blk_kept BK3.out hk NG3); have m6_ := Aside0.mk (blk_kept BK6.out hk NG6); have m8_ := Aside0.mk (blk_kept BK8.out hk NG8); clear HB BK3 BK6 BK8 HO; have HB := Aside0.mk hb; have BK3 := m3_; have BK6 := m6_; have BK8 := m8_; clear m3_ m6_ m8_ hb hk; have HO := Aside0.mk ho; have x4_ : w11.cell? ⟨g1, i * 5 + 4, none⟩ = some (.int .i64 Y.1.f4) := (by obtain ⟨_, _, _, _, _, cur1, hb1, _, _⟩ := impl_change.flat.blockG ho; exact (blk_cell hb1 _).trans ((Go.Proofs.Ytdbfjakhkclggaa.Slc.flat_elem impl_change.flat ho hb1 (by rw [List.length_set]; exact HI.out) z53 4 (show 4 < 5 by omega)).trans (by rw [List.getD_eq_getElem?_getD, List.getElem?_set_self HI.out]; first | done | rfl))); clear ho; (try clear c3_ f3_); have c3_ : w11.cell? ⟨gb3, 0, none⟩ = some (.slice A0 l0.length c0) := (blk_cell BK3.out 0).trans rfl; have f3_ := blk_frozen BK3.out 0; (try clear c6_ f6_); have c6_ : w11.cell? ⟨gb6, 0, none⟩ = some (.slice none 0 0) := (blk_cell BK6.out 0).trans rfl; have f6_ := blk_frozen BK6.out 0; (try clear c8_ f8_); have c8_ : w11.cell? ⟨gb8, 0, none⟩ = some (.slice (some ⟨g1, 0, none⟩) l0.length c1) := (blk_cell BK8.out 0).trans rfl; have f8_ := blk_frozen BK8.out 0))
      by_cases hz : Y.2 = 0
      rotate_left
      · rw [if_neg hz] at h
        obtain ⟨rfl, rfl⟩ : l0 = r1 ∧ Y.2 = r2 := by injection h with h; injection h with h1 h2; exact ⟨h1, h2⟩
        clear h
        have hz' : (Y.2 != 0) = true := by simpa using hz
        clear hz p3
        (first | rw [hz'] | skip)
        go_wp2_with (first | ((with_reducible refine gate_callee (f := 56) rfl ?_); refine goesL_ (some 36) rfl rfl Try.func56 (by kernel_rfl) rfl #[.agg #[.slice A0 l0.length c0]] rfl u6_6 ?_; (with_reducible refine (impl_copyBook.calls _ _ l0 l0 _ ?side1 ?side2 HCOPY.out).mono ?_); (case side1 => exact Kd.C_below HR.out HB.out); (case side2 => exact HC.out); rintro e w12 ⟨v12, rfl, ho0, hb⟩; refine ⟨_, rfl, ?_⟩; have HO2 := Aside0.mk (Kd.R_lower ho0 HB.out.size); obtain ⟨A2, c2, ev2⟩ := Kd.R_slice HO2.out; subst ev2; have n1_ := Aside0.mk (below_step HB.out hb); have m3_ := Aside0.mk (blk_below (g := gb3) (o := .cells #[.slice A0 l0.length c0] 29 (0, 0)) BK3.out hb); have m6_ := Aside0.mk (blk_below (g := gb6) (o := .cells #[.slice none 0 0] 29 (0, 0)) BK6.out hb); have m8_ := Aside0.mk (blk_below (g := gb8) (o := .cells #[.slice (some ⟨g1, 0, none⟩) l0.length c1] 29 (0, 0)) BK8.out hb); clear HB BK3 BK6 BK8; have HB := n1_; have BK3 := m3_; have BK6 := m6_; have BK8 := m8_; clear n1_ m3_ m6_ m8_; clear hb ho0; (try clear c3_ f3_); have c3_ : w12.cell? ⟨gb3, 0, none⟩ = some (.slice A0 l0.length c0) := (blk_cell BK3.out 0).trans rfl; have f3_ := blk_frozen BK3.out 0; (try clear c6_ f6_); have c6_ : w12.cell? ⟨gb6, 0, none⟩ = some (.slice none 0 0) := (blk_cell BK6.out 0).trans rfl; have f6_ := blk_frozen BK6.out 0; (try clear c8_ f8_); have c8_ : w12.cell? ⟨gb8, 0, none⟩ = some (.slice (some ⟨g1, 0, none⟩) l0.length c1) := (blk_cell BK8.out 0).trans rfl; have f8_ := blk_frozen BK8.out 0))
        refine bodyPost_ret (results_ct rfl _ _ gb6 29 #[.slice A2 l0.length c2] (0, 0) _ rfl (blk_put (cs := #[.slice none 0 0]) BK6.out 0 _ rfl) Try.underlying29 rfl (by kernel_rfl)) rfl ?_
        exact ⟨_, rfl, Kd.R_mono (Kd.R_far (p := ⟨gb6, 0, none⟩) (Kd.R_types HO2.out BK6.out (by decide)) (fun _ hk => hk.2) _) (fun _ _ => trivial), below_set HB.out G6.out⟩
      rw [if_pos hz] at h
      have hz' : (Y.2 != 0) = false := by simpa using hz
      clear hz
      (first | rw [hz'] | skip)
      by_cases hf : Y.1.f4 = -1
      rotate_left
      · rw [if_neg hf] at h
        obtain ⟨rfl, rfl⟩ : l0.set i Y.1 = r1 ∧ 0 = r2 := by injection h with h; injection h with h1 h2; exact ⟨h1, h2⟩
        clear h
        have hf' : (Y.1.f4 == -1) = false := by simpa using hf
        clear hf p3
        go_wp2
        refine bodyPost_ret (results_ct rfl _ _ gb6 29 #[.slice (some ⟨g1, 0, none⟩) l0.length c1] (0, 0) _ rfl (blk_put (cs := #[.slice none 0 0]) BK6.out 0 _ rfl) Try.underlying29 rfl (by kernel_rfl)) rfl ?_
        exact ⟨_, rfl, Kd.R_mono (Kd.R_far (p := ⟨gb6, 0, none⟩) (Kd.R_types HO.out BK6.out (by decide)) (fun _ hk => hk.2) _) (fun _ _ => trivial), below_set HB.out G6.out⟩
      rw [if_pos hf] at h
      obtain ⟨rfl, rfl⟩ : (l0.set i Y.1).eraseIdx i = r1 ∧ 0 = r2 := by injection h with h; injection h with h1 h2; exact ⟨h1, h2⟩
      clear h
      have hf' : (Y.1.f4 == -1) = true := by simpa using hf
      have hdel : impl_Account.f (l0.set i Y.1) (i : Int) ((i : Int) + 1) = some ((l0.set i Y.1).eraseIdx i) := by
        unfold impl_Account.f
        rw [if_pos ⟨of_eq_true p1, rfl, by rw [List.length_set]; exact of_eq_true p2⟩, p3]
      have HDEL := Aside0.mk hdel
      clear hdel hf p3
      have hw1 : IntKind.i64.wrap ((i : Int) + 1) = (i : Int) + 1 := by have := HLT.out; have := HI.out; rw [IntKind.wrap_i64]; omega
      go_wp2_with (first | ((with_reducible refine gate_callee (f := 78) rfl ?_); refine goesL_ (some 50) rfl rfl Try.func78 (by kernel_rfl) rfl #[.slice (some ⟨g1, 0, none⟩) l0.length c1, .int .i64 (i : Int), .int .i64 ((i : Int) + 1)] rfl u6_6 ?_; (with_reducible refine (impl_Account.calls (fun k => k = g1) _ (l0.set i Y.1) _ _ _ w _ HB.out HO.out HDEL.out).mono ?_); rintro e w12 ⟨v12, rfl, ho0, hb, hk⟩; refine ⟨_, rfl, ?_⟩; have NG3 : gb3 ≠ g1 := fun e => Kd.R_ne HO.out BK3.out (by decide) (by rw [e]; rfl); have NG6 : gb6 ≠ g1 := fun e => Kd.R_ne HO.out BK6.out (by decide) (by rw [e]; rfl); have NG8 : gb8 ≠ g1 := fun e => Kd.R_ne HO.out BK8.out (by decide) (by rw [e]; rfl); have m3_ := Aside0.mk (blk_kept BK3.out hk NG3); have m6_ := Aside0.mk (blk_kept BK6.out hk NG6); have m8_ := Aside0.mk (blk_kept BK8.out hk NG8); clear HB BK3 BK6 BK8 HO; have HB := Aside0.mk hb; have BK3 := m3_; have BK6 := m6_; have BK8 := m8_; clear m3_ m6_ m8_ hb hk; have HO2 := Aside0.mk ho0; clear ho0; obtain ⟨A2, c2, ev2⟩ := Kd.R_slice HO2.out; subst ev2; (try clear c3_ f3_); have c3_ : w12.cell? ⟨gb3, 0, none⟩ = some (.slice A0 l0.length c0) := (blk_cell BK3.out 0).trans rfl; have f3_ := blk_frozen BK3.out 0; (try clear c6_ f6_); have c6_ : w12.cell? ⟨gb6, 0, none⟩ = some (.slice none 0 0) := (blk_cell BK6.out 0).trans rfl; have f6_ := blk_frozen BK6.out 0; (try clear c8_ f8_); have c8_ : w12.cell? ⟨gb8, 0, none⟩ = some (.slice (some ⟨g1, 0, none⟩) l0.length c1) := (blk_cell BK8.out 0).trans rfl; have f8_ := blk_frozen BK8.out 0))
      refine bodyPost_ret (results_ct rfl _ _ gb6 29 #[.slice A2 ((l0.set i Y.1).eraseIdx i).length c2] (0, 0) _ rfl (blk_put (cs := #[.slice none 0 0]) (blk_far BK6.out N6_8 _) 0 _ rfl) Try.underlying29 rfl (by kernel_rfl)) rfl ?_
      exact ⟨_, rfl, Kd.R_mono (Kd.R_far (p := ⟨gb6, 0, none⟩) (Kd.R_far (p := ⟨gb8, 0, none⟩) (Kd.R_types (Kd.R_types HO2.out BK6.out (by decide)) BK8.out (by decide)) (fun _ hk => hk.2) _) (fun _ hk => hk.1.2) _) (fun _ _ => trivial), below_set (below_set HB.out G8.out) G6.out⟩


/-! ### impl_ReleaseHold: function 31 -/
/-- What the literal makes of an account, and its code. -/
def impl_ReleaseHold.g (a2 a3 : Int) (x : S53) : S53 × Int := if ¬ x.f4 = a2 then (x, 7) else (⟨a3, IntKind.u64.wrap (x.f1 + x.f2), 0, 0, 0⟩, 0)
set_option maxHeartbeats 1600000 in
theorem impl_ReleaseHold.lit (g n cap i : Nat) (l0 : List S53) (ok : Nat → Prop) (a2 a3 : Int) (b2 b3 : Nat) (w0 w : World) (hB : Below w0.heap.size w0 w) (ho : Kd.R k53 53 w w0.heap.size ok (.slice (some ⟨g, 0, none⟩) n cap) l0) (hi : i < l0.length) (p2 : w.cell? ⟨b2, 0, none⟩ = some (.int .i64 a2)) (q2 : b2 ≠ g) (p3 : w.cell? ⟨b3, 0, none⟩ = some (.int .u64 a3)) (q3 : b3 ≠ g) :
    Calls Try.prog 62 #[.pointer (some ⟨g, i * 5, none⟩), .pointer (some ⟨b2, 0, none⟩), .pointer (some ⟨b3, 0, none⟩)] w fun e w' => e = .returned (.int .i64 (impl_ReleaseHold.g a2 a3 (l0.getD i z53)).2) ∧ Kd.R k53 53 w' w0.heap.size ok (.slice (some ⟨g, 0, none⟩) n cap) (l0.set i (impl_ReleaseHold.g a2 a3 (l0.getD i z53)).1) ∧ Below w0.heap.size w0 w' ∧ Kept w w' (fun k => k = g) := by
  obtain ⟨_, hg, _, _, _, cur, hb, hs, _⟩ := impl_change.flat.blockG ho
  obtain ⟨x, hx⟩ : ∃ x, x = l0.getD i z53 := ⟨_, rfl⟩
  have he : ∀ j, j < 5 → cur[i * 5 + j]? = (impl_change.enc x)[j]? := fun j hj => by rw [hx]; exact Go.Proofs.Ytdbfjakhkclggaa.Slc.flat_elem impl_change.flat ho hb hi z53 j hj
  have hlt : ∀ j, j < 5 → i * 5 + j < cur.size := fun j hj => by
    have := he j hj
    rcases Nat.lt_or_ge (i * 5 + j) cur.size with h | h
    · exact h
    · rw [Array.getElem?_eq_none h, List.getElem?_eq_getElem hj] at this
      cases this
  have x0 : w.cell? ⟨g, i * 5, none⟩ = some (.int .u64 x.f0) := (blk_cell hb _).trans (he 0 (by omega))
  have x1 : w.cell? ⟨g, i * 5 + 1, none⟩ = some (.int .u64 x.f1) := (blk_cell hb _).trans (he 1 (by omega))
  have x2 : w.cell? ⟨g, i * 5 + 2, none⟩ = some (.int .u64 x.f2) := (blk_cell hb _).trans (he 2 (by omega))
  have x3 : w.cell? ⟨g, i * 5 + 3, none⟩ = some (.int .u64 x.f3) := (blk_cell hb _).trans (he 3 (by omega))
  have x4 : w.cell? ⟨g, i * 5 + 4, none⟩ = some (.int .i64 x.f4) := (blk_cell hb _).trans (he 4 (by omega))
  have f0 : w.frozen? ⟨g, i * 5, none⟩ = false := blk_frozen hb _
  have f1 : w.frozen? ⟨g, i * 5 + 1, none⟩ = false := blk_frozen hb _
  have f2 : w.frozen? ⟨g, i * 5 + 2, none⟩ = false := blk_frozen hb _
  have f3 : w.frozen? ⟨g, i * 5 + 3, none⟩ = false := blk_frozen hb _
  have f4 : w.frozen? ⟨g, i * 5 + 4, none⟩ = false := blk_frozen hb _
  rw [← hx]
  -- the row as it was, and as it is when cells of the element are written
  have same : ∀ W : World, (∀ k, W.heap[k]? = w.heap[k]?) → Kd.R k53 53 W w0.heap.size ok (.slice (some ⟨g, 0, none⟩) n cap) (l0.set i x) := fun W hW => by
    refine Go.Proofs.Ytdbfjakhkclggaa.Slc.flat_upd impl_change.flat ho hi hb ((hW g).trans hb) rfl (fun j hj => he j hj) (fun q _ => rfl)
  have HS := Aside0.mk same
  have HBl := Aside0.mk hB
  have HG := Aside0.mk hg
  have HO := Aside0.mk ho
  have Hb := Aside0.mk hb
  have HE := Aside0.mk he
  have HI := Aside0.mk hi
  have HL := Aside0.mk hlt
  clear same hB hg ho hb he hi hlt hs hx
  have hu := Try.underlying53
  by_cases h4 : ¬ x.f4 = a2
  · have ch4 := show (x.f4 != a2) = true by simpa using h4
    go_enter Try.func62, Try.ntmps62
    go_wp2
    repeat (go_region; try go_wp2)
    go_ret
    rw [show impl_ReleaseHold.g a2 a3 x = (x, 7) by simp [impl_ReleaseHold.g, h4]]
    exact ⟨rfl, HS.out _ (fun _ => rfl), u6_14, u6_13⟩
  have ch4 := show (x.f4 != a2) = false by simpa using h4
  go_enter Try.func62, Try.ntmps62
  go_wp2
  repeat (go_region; try go_wp2)
  go_ret
  rw [show impl_ReleaseHold.g a2 a3 x = (⟨a3, IntKind.u64.wrap (x.f1 + x.f2), 0, 0, 0⟩, 0) by simp [impl_ReleaseHold.g, h4]]
  obtain ⟨W, hW⟩ : ∃ W, W = (((((w.setCell ⟨g, i * 5, none⟩ (.int .u64 (a3))).setCell ⟨g, i * 5 + 1, none⟩ (.int .u64 (IntKind.u64.wrap (x.f1 + x.f2)))).setCell ⟨g, i * 5 + 2, none⟩ (.int .u64 (0))).setCell ⟨g, i * 5 + 3, none⟩ (.int .u64 (0))).setCell ⟨g, i * 5 + 4, none⟩ (.int .i64 (0))) := ⟨_, rfl⟩
  have hbW : W.heap[g]? = some (.cells (((((cur.setIfInBounds (i * 5) (.int .u64 (a3))).setIfInBounds (i * 5 + 1) (.int .u64 (IntKind.u64.wrap (x.f1 + x.f2)))).setIfInBounds (i * 5 + 2) (.int .u64 (0))).setIfInBounds (i * 5 + 3) (.int .u64 (0))).setIfInBounds (i * 5 + 4) (.int .i64 (0))) 53 (0, 0)) := by rw [hW]; exact (blk_set (blk_set (blk_set (blk_set (blk_set (w := w) Hb.out (i * 5) (.int .u64 (a3))) (i * 5 + 1) (.int .u64 (IntKind.u64.wrap (x.f1 + x.f2)))) (i * 5 + 2) (.int .u64 (0))) (i * 5 + 3) (.int .u64 (0))) (i * 5 + 4) (.int .i64 (0)))
  have hBW : Below w0.heap.size w0 W := by rw [hW]; exact (below_set (below_set (below_set (below_set (below_set HBl.out HG.out) HG.out) HG.out) HG.out) HG.out)
  have hKW : Kept w W (fun k => k = g) := by rw [hW]; exact (Kept.setCell (S := fun k => k = g) ((Kept.setCell (S := fun k => k = g) ((Kept.setCell (S := fun k => k = g) ((Kept.setCell (S := fun k => k = g) ((Kept.setCell (S := fun k => k = g) (Kept.refl _ _) (p := ⟨g, i * 5, none⟩) (.inl rfl) (.int .u64 (a3)))) (p := ⟨g, i * 5 + 1, none⟩) (.inl rfl) (.int .u64 (IntKind.u64.wrap (x.f1 + x.f2))))) (p := ⟨g, i * 5 + 2, none⟩) (.inl rfl) (.int .u64 (0)))) (p := ⟨g, i * 5 + 3, none⟩) (.inl rfl) (.int .u64 (0)))) (p := ⟨g, i * 5 + 4, none⟩) (.inl rfl) (.int .i64 (0)))
  rw [← hW]
  clear hW
  refine ⟨rfl, Go.Proofs.Ytdbfjakhkclggaa.Slc.flat_upd impl_change.flat HO.out HI.out Hb.out (cur' := (((((cur.setIfInBounds (i * 5) (.int .u64 (a3))).setIfInBounds (i * 5 + 1) (.int .u64 (IntKind.u64.wrap (x.f1 + x.f2)))).setIfInBounds (i * 5 + 2) (.int .u64 (0))).setIfInBounds (i * 5 + 3) (.int .u64 (0))).setIfInBounds (i * 5 + 4) (.int .i64 (0)))) u6_12 (by simp) (fun j hj => ?_) (fun q hq => ?_), by repeat (first | exact hBW | apply below_drew), by repeat (first | exact hKW | apply Kept.drew)⟩
  · have hj : j < 5 := hj
    have e := HE.out j hj
    have hl := HL.out j hj
    show (((((cur.setIfInBounds (i * 5) (.int .u64 (a3))).setIfInBounds (i * 5 + 1) (.int .u64 (IntKind.u64.wrap (x.f1 + x.f2)))).setIfInBounds (i * 5 + 2) (.int .u64 (0))).setIfInBounds (i * 5 + 3) (.int .u64 (0))).setIfInBounds (i * 5 + 4) (.int .i64 (0)))[i * 5 + j]? = _
    rcases (show j = 0 ∨ j = 1 ∨ j = 2 ∨ j = 3 ∨ j = 4 by omega) with rfl | rfl | rfl | rfl | rfl
    · rw [Array.getElem?_setIfInBounds, if_neg (by omega), Array.getElem?_setIfInBounds, if_neg (by omega), Array.getElem?_setIfInBounds, if_neg (by omega), Array.getElem?_setIfInBounds, if_neg (by omega), Array.getElem?_setIfInBounds, if_pos (show i * 5 = i * 5 + 0 from rfl), if_pos (by simpa using hl)]; first | done | rfl
    · rw [Array.getElem?_setIfInBounds, if_neg (by omega), Array.getElem?_setIfInBounds, if_neg (by omega), Array.getElem?_setIfInBounds, if_neg (by omega), Array.getElem?_setIfInBounds, if_pos rfl, if_pos (by simpa using hl)]; first | done | rfl
    · rw [Array.getElem?_setIfInBounds, if_neg (by omega), Array.getElem?_setIfInBounds, if_neg (by omega), Array.getElem?_setIfInBounds, if_pos rfl, if_pos (by simpa using hl)]; first | done | rfl
    · rw [Array.getElem?_setIfInBounds, if_neg (by omega), Array.getElem?_setIfInBounds, if_pos rfl, if_pos (by simpa using hl)]; first | done | rfl
    rw [Array.getElem?_setIfInBounds, if_pos rfl, if_pos (by simpa using hl)]; first | done | rfl
  have hq : q < i * 5 ∨ i * 5 + 5 ≤ q := hq
  rw [Array.getElem?_setIfInBounds, if_neg (by omega), Array.getElem?_setIfInBounds, if_neg (by omega), Array.getElem?_setIfInBounds, if_neg (by omega), Array.getElem?_setIfInBounds, if_neg (by omega), Array.getElem?_setIfInBounds, if_neg (by omega)]

def impl_ReleaseHold.cf (k : Nat) (l0 : List S53) (a1 a2 a3 : Int) : Option (List S53 × Int) := impl_change.cf (impl_ReleaseHold.g a2 a3) k l0 a1
theorem impl_ReleaseHold.cf_mono (l0 : List S53) (a1 a2 a3 : Int) (k : Nat) : LeO (impl_ReleaseHold.cf k l0 a1 a2 a3) (impl_ReleaseHold.cf (k + 1) l0 a1 a2 a3) := impl_change.cf_mono _ l0 a1 k
theorem impl_ReleaseHold.change (k : Nat) (A0 : Option Addr) (c0 : Nat) (l0 : List S53) (a1 a2 a3 : Int) (b2 b3 : Nat) (r1 : List S53) (r2 : Int) (w : World) (hr0 : Kd.C k53 w A0 l0.length l0) (hc0 : l0.length ≤ c0) (p2 : w.cell? ⟨b2, 0, none⟩ = some (.int .i64 a2)) (p3 : w.cell? ⟨b3, 0, none⟩ = some (.int .u64 a3)) (h : impl_ReleaseHold.cf k l0 a1 a2 a3 = some (r1, r2)) :
    Calls Try.prog 60 #[.agg #[.slice A0 l0.length c0], .int .u64 a1, .func (.func 62) #[] #[.pointer (some ⟨b2, 0, none⟩), .pointer (some ⟨b3, 0, none⟩)]] w fun e w' => ∃ v0_ : Value, e = .returned (.tuple #[.agg #[v0_], .int .i64 r2]) ∧ Kd.R k53 53 w' w.heap.size (fun _ => True) v0_ r1 ∧ Below w.heap.size w w' :=
  impl_change.gen 62 #[.pointer (some ⟨b2, 0, none⟩), .pointer (some ⟨b3, 0, none⟩)] (impl_ReleaseHold.g a2 a3) k A0 c0 l0 a1 r1 r2 w hr0 hc0 (fun i g1 c1 W hi hg hB ho => impl_ReleaseHold.lit g1 l0.length c1 i l0 (fun k => k = g1) a2 a3 b2 b3 w W hB ho hi ((hB.cell (World.block_lt_of_cell? w _ p2)).trans p2) (Nat.ne_of_lt (Nat.lt_of_lt_of_le (World.block_lt_of_cell? w _ p2) hg)) ((hB.cell (World.block_lt_of_cell? w _ p3)).trans p3) (Nat.ne_of_lt (Nat.lt_of_lt_of_le (World.block_lt_of_cell? w _ p3) hg))) Try.call62 h
def impl_ReleaseHold.f (k : Nat) (l0 : List S53) (a1 : Int) (a2 : Int) : Option (List S53 × Int) := if a2 < 1 then (impl_copyBook.f l0).bind fun y => some (y, 1) else impl_ReleaseHold.cf k l0 a1 a2 a1
theorem impl_ReleaseHold.mono : ∀ (l0 : List S53) (a1 : Int) (a2 : Int) (k : Nat), LeO (impl_ReleaseHold.f k l0 a1 a2) (impl_ReleaseHold.f (k + 1) l0 a1 a2) := fun l0 a1 a2 k => by
  unfold impl_ReleaseHold.f
  exact LeO.ite (LeO.refl _) (impl_ReleaseHold.cf_mono _ _ _ _ k)
set_option maxHeartbeats 4000000 in
set_option maxRecDepth 100000 in
theorem impl_ReleaseHold.calls (k : Nat) (A0 : Option Addr) (c0 : Nat) (l0 : List S53) (a1 : Int) (a2 : Int) (r1 : List S53) (r2 : Int) (w : World) (hr0 : Kd.C k53 w A0 l0.length l0) (hc0 : l0.length ≤ c0) (h : impl_ReleaseHold.f k l0 a1 a2 = some (r1, r2)) :
    Calls Try.prog 31 #[.agg #[.slice A0 l0.length c0], .int .u64 a1, .int .i64 a2] w fun e w' => ∃ v0_ : Value, e = .returned (.tuple #[.agg #[v0_], .int .i64 r2]) ∧ Kd.R k53 53 w' w.heap.size (fun _ => True) v0_ r1 ∧ Below w.heap.size w w' := by
  have hu := Try.underlying29
  have HR := Aside0.mk hr0
  have HC := Aside0.mk hc0
  have HB := Aside0.mk (Below.refl w.heap.size w)
  clear hr0 hc0
  unfold impl_ReleaseHold.f at h
  by_cases hg : a2 < 1
  rotate_left
  · rw [if_neg hg] at h
    have HF := Aside0.mk h
    clear h
    have cg := decide_eq_false hg
    go_enter Try.func31, Try.ntmps31
    go_wp2_with (first | ((with_reducible refine gate_dst (N := 3) rfl ?_); refine box_event ?hg (N := 3) ?hd (cs := #[.slice A0 l0.length c0]) (t := 29) ?hr ?_; (case hd => rfl); (case hg => rfl); (case hr => first | (go_simp; done) | (go_simp; rfl)); intro gb3 hg w3 hbox hb; have n0_ := Aside0.mk (below_step u6_0 hb); have n1_ := Aside0.mk (show w.heap.size ≤ gb3 by rw [hg]; exact (below_size u6_0)); have n2_ := Aside0.mk hbox; clear HB; have HB := n0_; have G3 := n1_; have BK3 := n2_; clear n0_ n1_ n2_; clear hbox hg hb; (try clear c3_ f3_); have c3_ : w3.cell? ⟨gb3, 0, none⟩ = some (.slice A0 l0.length c0) := (blk_cell BK3.out 0).trans rfl; have f3_ := blk_frozen BK3.out 0) | ((with_reducible refine gate_dst (N := 4) rfl ?_); refine box_event ?hg (N := 4) ?hd (cs := #[.int .u64 a1]) (t := 33) ?hr ?_; (case hd => rfl); (case hg => rfl); (case hr => first | (go_simp; done) | (go_simp; rfl)); intro gb4 hg w4 hbox hb; have n0_ := Aside0.mk (below_step u6_0 hb); have n1_ := Aside0.mk (show w.heap.size ≤ gb4 by rw [hg]; exact (below_size u6_0)); have n2_ := Aside0.mk hbox; have m3_ := Aside0.mk (blk_below (g := gb3) (o := .cells #[.slice A0 l0.length c0] 29 (0, 0)) u6_1 hb); have N3_4 := (show gb3 ≠ gb4 by rw [hg]; exact Nat.ne_of_lt (blk_lt (g := gb3) (o := .cells #[.slice A0 l0.length c0] 29 (0, 0)) u6_1)); have N4_3 := (N3_4).symm; clear HB; have HB := n0_; have G4 := n1_; have BK4 := n2_; clear n0_ n1_ n2_; clear BK3; have BK3 := m3_; clear m3_; clear hbox hg hb; (try clear c3_ f3_); have c3_ : w4.cell? ⟨gb3, 0, none⟩ = some (.slice A0 l0.length c0) := (blk_cell BK3.out 0).trans rfl; have f3_ := blk_frozen BK3.out 0; (try clear c4_ f4_); have c4_ : w4.cell? ⟨gb4, 0, none⟩ = some (.int .u64 a1) := (blk_cell BK4.out 0).trans rfl; have f4_ := blk_frozen BK4.out 0) | ((with_reducible refine gate_dst (N := 5) rfl ?_); refine box_event ?hg (N := 5) ?hd (cs := #[.int .i64 a2]) (t := 3) ?hr ?_; (case hd => rfl); (case hg => rfl); (case hr => first | (go_simp; done) | (go_simp; rfl)); intro gb5 hg w5 hbox hb; have n0_ := Aside0.mk (below_step u6_0 hb); have n1_ := Aside0.mk (show w.heap.size ≤ gb5 by rw [hg]; exact (below_size u6_0)); have n2_ := Aside0.mk hbox; have m3_ := Aside0.mk (blk_below (g := gb3) (o := .cells #[.slice A0 l0.length c0] 29 (0, 0)) u6_1 hb); have N3_5 := (show gb3 ≠ gb5 by rw [hg]; exact Nat.ne_of_lt (blk_lt (g := gb3) (o := .cells #[.slice A0 l0.length c0] 29 (0, 0)) u6_1)); have N5_3 := (N3_5).symm; have m4_ := Aside0.mk (blk_below (g := gb4) (o := .cells #[.int .u64 a1] 33 (0, 0)) u6_2 hb); have N4_5 := (show gb4 ≠ gb5 by rw [hg]; exact Nat.ne_of_lt (blk_lt (g := gb4) (o := .cells #[.int .u64 a1] 33 (0, 0)) u6_2)); have N5_4 := (N4_5).symm; clear HB; have HB := n0_; have G5 := n1_; have BK5 := n2_; clear n0_ n1_ n2_; clear BK3; have BK3 := m3_; clear m3_; clear BK4; have BK4 := m4_; clear m4_; clear hbox hg hb; (try clear c3_ f3_); have c3_ : w5.cell? ⟨gb3, 0, none⟩ = some (.slice A0 l0.length c0) := (blk_cell BK3.out 0).trans rfl; have f3_ := blk_frozen BK3.out 0; (try clear c4_ f4_); have c4_ : w5.cell? ⟨gb4, 0, none⟩ = some (.int .u64 a1) := (blk_cell BK4.out 0).trans rfl; have f4_ := blk_frozen BK4.out 0; (try clear c5_ f5_); have c5_ : w5.cell? ⟨gb5, 0, none⟩ = some (.int .i64 a2) := (blk_cell BK5.out 0).trans rfl; have f5_ := blk_frozen BK5.out 0) | ((with_reducible refine gate_dst (N := 6) rfl ?_); refine box_event ?hg (N := 6) ?hd (cs := #[.slice none 0 0]) (t := 29) ?hr ?_; (case hd => rfl); (case hg => rfl); (case hr => first | (go_simp; done) | (go_simp; rfl)); intro gb6 hg w6 hbox hb; have n0_ := Aside0.mk (below_step u6_0 hb); have n1_ := Aside0.mk (show w.heap.size ≤ gb6 by rw [hg]; exact (below_size u6_0)); have n2_ := Aside0.mk hbox; have m3_ := Aside0.mk (blk_below (g := gb3) (o := .cells #[.slice A0 l0.length c0] 29 (0, 0)) u6_1 hb); have N3_6 := (show gb3 ≠ gb6 by rw [hg]; exact Nat.ne_of_lt (blk_lt (g := gb3) (o := .cells #[.slice A0 l0.length c0] 29 (0, 0)) u6_1)); have N6_3 := (N3_6).symm; have m4_ := Aside0.mk (blk_below (g := gb4) (o := .cells #[.int .u64 a1] 33 (0, 0)) u6_2 hb); have N4_6 := (show gb4 ≠ gb6 by rw [hg]; exact Nat.ne_of_lt (blk_lt (g := gb4) (o := .cells #[.int .u64 a1] 33 (0, 0)) u6_2)); have N6_4 := (N4_6).symm; have m5_ := Aside0.mk (blk_below (g := gb5) (o := .cells #[.int .i64 a2] 3 (0, 0)) u6_5 hb); have N5_6 := (show gb5 ≠ gb6 by rw [hg]; exact Nat.ne_of_lt (blk_lt (g := gb5) (o := .cells #[.int .i64 a2] 3 (0, 0)) u6_5)); have N6_5 := (N5_6).symm; clear HB; have HB := n0_; have G6 := n1_; have BK6 := n2_; clear n0_ n1_ n2_; clear BK3; have BK3 := m3_; clear m3_; clear BK4; have BK4 := m4_; clear m4_; clear BK5; have BK5 := m5_; clear m5_; clear hbox hg hb; (try clear c3_ f3_); have c3_ : w6.cell? ⟨gb3, 0, none⟩ = some (.slice A0 l0.length c0) := (blk_cell BK3.out 0).trans rfl; have f3_ := blk_frozen BK3.out 0; (try clear c4_ f4_); have c4_ : w6.cell? ⟨gb4, 0, none⟩ = some (.int .u64 a1) := (blk_cell BK4.out 0).trans rfl; have f4_ := blk_frozen BK4.out 0; (try clear c5_ f5_); have c5_ : w6.cell? ⟨gb5, 0, none⟩ = some (.int .i64 a2) := (blk_cell BK5.out 0).trans rfl; have f5_ := blk_frozen BK5.out 0; (try clear c6_ f6_); have c6_ : w6.cell? ⟨gb6, 0, none⟩ = some (.slice none 0 0) := (blk_cell BK6.out 0).trans rfl; have f6_ := blk_frozen BK6.out 0) | ((with_reducible refine gate_callee (f := 60) rfl ?_); refine goesL_ (some 15) rfl rfl Try.func60 (by kernel_rfl) rfl #[.agg #[.slice A0 l0.length c0], .int .u64 a1, .func (.func 62) #[] #[.pointer (some ⟨gb5, 0, none⟩), .pointer (some ⟨gb4, 0, none⟩)]] rfl u6_6 ?_; (with_reducible refine (impl_ReleaseHold.change k _ _ l0 a1 a2 a1 gb5 gb4 _ _ _ ?side1 ?side2 c5_ c4_ HF.out).mono ?_); (case side1 => exact Kd.C_below HR.out HB.out); (case side2 => exact HC.out); rintro e w20 ⟨v20, rfl, ho0, hb⟩; refine ⟨_, rfl, ?_⟩; have HO := Aside0.mk (Kd.R_lower ho0 HB.out.size); obtain ⟨A1, c1, ev1⟩ := Kd.R_slice HO.out; subst ev1; have n1_ := Aside0.mk (below_step HB.out hb); have m_ := Aside0.mk (blk_below (g := gb6) (o := .cells #[.slice none 0 0] 29 (0, 0)) BK6.out hb); clear HB BK6; have HB := n1_; have BK6 := m_; clear n1_ m_; clear hb ho0; (try clear c6_ f6_); have c6_ : w20.cell? ⟨gb6, 0, none⟩ = some (.slice none 0 0) := (blk_cell BK6.out 0).trans rfl; have f6_ := blk_frozen BK6.out 0))
    refine bodyPost_ret (results_ct rfl _ _ gb6 29 #[.slice A1 r1.length c1] (0, 0) _ rfl (blk_put (cs := #[.slice none 0 0]) BK6.out 0 _ rfl) Try.underlying29 rfl (by kernel_rfl)) rfl ?_
    exact ⟨_, rfl, Kd.R_mono (Kd.R_far (p := ⟨gb6, 0, none⟩) (Kd.R_types HO.out BK6.out (by decide)) (fun _ hk => hk.2) _) (fun _ _ => trivial), below_set HB.out G6.out⟩
  rw [if_pos hg] at h
  obtain ⟨y, hy, h⟩ := Option.bind_eq_some_iff.1 h
  obtain ⟨rfl, rfl⟩ : y = r1 ∧ 1 = r2 := by injection h with h; injection h with h1 h2; exact ⟨h1, h2⟩
  have HF := Aside0.mk hy
  clear h hy
  have cg := decide_eq_true hg
  go_enter Try.func31, Try.ntmps31
  go_wp2_with (first | ((with_reducible refine gate_dst (N := 3) rfl ?_); refine box_event ?hg (N := 3) ?hd (cs := #[.slice A0 l0.length c0]) (t := 29) ?hr ?_; (case hd => rfl); (case hg => rfl); (case hr => first | (go_simp; done) | (go_simp; rfl)); intro gb3 hg w3 hbox hb; have n0_ := Aside0.mk (below_step u6_0 hb); have n1_ := Aside0.mk (show w.heap.size ≤ gb3 by rw [hg]; exact (below_size u6_0)); have n2_ := Aside0.mk hbox; clear HB; have HB := n0_; have G3 := n1_; have BK3 := n2_; clear n0_ n1_ n2_; clear hbox hg hb; (try clear c3_ f3_); have c3_ : w3.cell? ⟨gb3, 0, none⟩ = some (.slice A0 l0.length c0) := (blk_cell BK3.out 0).trans rfl; have f3_ := blk_frozen BK3.out 0) | ((with_reducible refine gate_dst (N := 4) rfl ?_); refine box_event ?hg (N := 4) ?hd (cs := #[.int .u64 a1]) (t := 33) ?hr ?_; (case hd => rfl); (case hg => rfl); (case hr => first | (go_simp; done) | (go_simp; rfl)); intro gb4 hg w4 hbox hb; have n0_ := Aside0.mk (below_step u6_0 hb); have n1_ := Aside0.mk (show w.heap.size ≤ gb4 by rw [hg]; exact (below_size u6_0)); have n2_ := Aside0.mk hbox; have m3_ := Aside0.mk (blk_below (g := gb3) (o := .cells #[.slice A0 l0.length c0] 29 (0, 0)) u6_1 hb); have N3_4 := (show gb3 ≠ gb4 by rw [hg]; exact Nat.ne_of_lt (blk_lt (g := gb3) (o := .cells #[.slice A0 l0.length c0] 29 (0, 0)) u6_1)); have N4_3 := (N3_4).symm; clear HB; have HB := n0_; have G4 := n1_; have BK4 := n2_; clear n0_ n1_ n2_; clear BK3; have BK3 := m3_; clear m3_; clear hbox hg hb; (try clear c3_ f3_); have c3_ : w4.cell? ⟨gb3, 0, none⟩ = some (.slice A0 l0.length c0) := (blk_cell BK3.out 0).trans rfl; have f3_ := blk_frozen BK3.out 0; (try clear c4_ f4_); have c4_ : w4.cell? ⟨gb4, 0, none⟩ = some (.int .u64 a1) := (blk_cell BK4.out 0).trans rfl; have f4_ := blk_frozen BK4.out 0) | ((with_reducible refine gate_dst (N := 5) rfl ?_); refine box_event ?hg (N := 5) ?hd (cs := #[.int .i64 a2]) (t := 3) ?hr ?_; (case hd => rfl); (case hg => rfl); (case hr => first | (go_simp; done) | (go_simp; rfl)); intro gb5 hg w5 hbox hb; have n0_ := Aside0.mk (below_step u6_0 hb); have n1_ := Aside0.mk (show w.heap.size ≤ gb5 by rw [hg]; exact (below_size u6_0)); have n2_ := Aside0.mk hbox; have m3_ := Aside0.mk (blk_below (g := gb3) (o := .cells #[.slice A0 l0.length c0] 29 (0, 0)) u6_1 hb); have N3_5 := (show gb3 ≠ gb5 by rw [hg]; exact Nat.ne_of_lt (blk_lt (g := gb3) (o := .cells #[.slice A0 l0.length c0] 29 (0, 0)) u6_1)); have N5_3 := (N3_5).symm; have m4_ := Aside0.mk (blk_below (g := gb4) (o := .cells #[.int .u64 a1] 33 (0, 0)) u6_2 hb); have N4_5 := (show gb4 ≠ gb5 by rw [hg]; exact Nat.ne_of_lt (blk_lt (g := gb4) (o := .cells #[.int .u64 a1] 33 (0, 0)) u6_2)); have N5_4 := (N4_5).symm; clear HB; have HB := n0_; have G5 := n1_; have BK5 := n2_; clear n0_ n1_ n2_; clear BK3; have BK3 := m3_; clear m3_; clear BK4; have BK4 := m4_; clear m4_; clear hbox hg hb; (try clear c3_ f3_); have c3_ : w5.cell? ⟨gb3, 0, none⟩ = some (.slice A0 l0.length c0) := (blk_cell BK3.out 0).trans rfl; have f3_ := blk_frozen BK3.out 0; (try clear c4_ f4_); have c4_ : w5.cell? ⟨gb4, 0, none⟩ = some (.int .u64 a1) := (blk_cell BK4.out 0).trans rfl; have f4_ := blk_frozen BK4.out 0; (try clear c5_ f5_); have c5_ : w5.cell? ⟨gb5, 0, none⟩ = some (.int .i64 a2) := (blk_cell BK5.out 0).trans rfl; have f5_ := blk_frozen BK5.out 0) | ((with_reducible refine gate_dst (N := 6) rfl ?_); refine box_event ?hg (N := 6) ?hd (cs := #[.slice none 0 0]) (t := 29) ?hr ?_; (case hd => rfl); (case hg => rfl); (case hr => first | (go_simp; done) | (go_simp; rfl)); intro gb6 hg w6 hbox hb; have n0_ := Aside0.mk (below_step u6_0 hb); have n1_ := Aside0.mk (show w.heap.size ≤ gb6 by rw [hg]; exact (below_size u6_0)); have n2_ := Aside0.mk hbox; have m3_ := Aside0.mk (blk_below (g := gb3) (o := .cells #[.slice A0 l0.length c0] 29 (0, 0)) u6_1 hb); have N3_6 := (show gb3 ≠ gb6 by rw [hg]; exact Nat.ne_of_lt (blk_lt (g := gb3) (o := .cells #[.slice A0 l0.length c0] 29 (0, 0)) u6_1)); have N6_3 := (N3_6).symm; have m4_ := Aside0.mk (blk_below (g := gb4) (o := .cells #[.int .u64 a1] 33 (0, 0)) u6_2 hb); have N4_6 := (show gb4 ≠ gb6 by rw [hg]; exact Nat.ne_of_lt (blk_lt (g := gb4) (o := .cells #[.int .u64 a1] 33 (0, 0)) u6_2)); have N6_4 := (N4_6).symm; have m5_ := Aside0.mk (blk_below (g := gb5) (o := .cells #[.int .i64 a2] 3 (0, 0)) u6_5 hb); have N5_6 := (show gb5 ≠ gb6 by rw [hg]; exact Nat.ne_of_lt (blk_lt (g := gb5) (o := .cells #[.int .i64 a2] 3 (0, 0)) u6_5)); have N6_5 := (N5_6).symm; clear HB; have HB := n0_; have G6 := n1_; have BK6 := n2_; clear n0_ n1_ n2_; clear BK3; have BK3 := m3_; clear m3_; clear BK4; have BK4 := m4_; clear m4_; clear BK5; have BK5 := m5_; clear m5_; clear hbox hg hb; (try clear c3_ f3_); have c3_ : w6.cell? ⟨gb3, 0, none⟩ = some (.slice A0 l0.length c0) := (blk_cell BK3.out 0).trans rfl; have f3_ := blk_frozen BK3.out 0; (try clear c4_ f4_); have c4_ : w6.cell? ⟨gb4, 0, none⟩ = some (.int .u64 a1) := (blk_cell BK4.out 0).trans rfl; have f4_ := blk_frozen BK4.out 0; (try clear c5_ f5_); have c5_ : w6.cell? ⟨gb5, 0, none⟩ = some (.int .i64 a2) := (blk_cell BK5.out 0).trans rfl; have f5_ := blk_frozen BK5.out 0; (try clear c6_ f6_); have c6_ : w6.cell? ⟨gb6, 0, none⟩ = some (.slice none 0 0) := (blk_cell BK6.out 0).trans rfl; have f6_ := blk_frozen BK6.out 0) | ((with_reducible refine gate_callee (f := 56) rfl ?_); refine goesL_ (some 11) rfl rfl Try.func56 (by kernel_rfl) rfl #[.agg #[.slice A0 l0.length c0]] rfl u6_6 ?_; (with_reducible refine (impl_copyBook.calls _ _ l0 y _ ?side1 ?side2 HF.out).mono ?_); (case side1 => exact Kd.C_below HR.out HB.out); (case side2 => exact HC.out); rintro e w20 ⟨v20, rfl, ho0, hb⟩; refine ⟨_, rfl, ?_⟩; have HO := Aside0.mk (Kd.R_lower ho0 HB.out.size); obtain ⟨A1, c1, ev1⟩ := Kd.R_slice HO.out; subst ev1; have n1_ := Aside0.mk (below_step HB.out hb); have m_ := Aside0.mk (blk_below (g := gb6) (o := .cells #[.slice none 0 0] 29 (0, 0)) BK6.out hb); clear HB BK6; have HB := n1_; have BK6 := m_; clear n1_ m_; clear hb ho0; (try clear c6_ f6_); have c6_ : w20.cell? ⟨gb6, 0, none⟩ = some (.slice none 0 0) := (blk_cell BK6.out 0).trans rfl; have f6_ := blk_frozen BK6.out 0))
  refine bodyPost_ret (results_ct rfl _ _ gb6 29 #[.slice A1 y.length c1] (0, 0) _ rfl (blk_put (cs := #[.slice none 0 0]) BK6.out 0 _ rfl) Try.underlying29 rfl (by kernel_rfl)) rfl ?_
  exact ⟨_, rfl, Kd.R_mono (Kd.R_far (p := ⟨gb6, 0, none⟩) (Kd.R_types HO.out BK6.out (by decide)) (fun _ hk => hk.2) _) (fun _ _ => trivial), below_set HB.out G6.out⟩


/-! ### impl_SettleHold: function 33 -/
/-- What the literal makes of an account, and its code. -/
def impl_SettleHold.g (a2 a3 : Int) (x : S53) : S53 × Int := if ¬ x.f4 = a2 then (x, 7) else (⟨a3, IntKind.u64.wrap (x.f1 + x.f3), 0, 0, 0⟩, 0)
set_option maxHeartbeats 1600000 in
theorem impl_SettleHold.lit (g n cap i : Nat) (l0 : List S53) (ok : Nat → Prop) (a2 a3 : Int) (b2 b3 : Nat) (w0 w : World) (hB : Below w0.heap.size w0 w) (ho : Kd.R k53 53 w w0.heap.size ok (.slice (some ⟨g, 0, none⟩) n cap) l0) (hi : i < l0.length) (p2 : w.cell? ⟨b2, 0, none⟩ = some (.int .i64 a2)) (q2 : b2 ≠ g) (p3 : w.cell? ⟨b3, 0, none⟩ = some (.int .u64 a3)) (q3 : b3 ≠ g) :
    Calls Try.prog 63 #[.pointer (some ⟨g, i * 5, none⟩), .pointer (some ⟨b2, 0, none⟩), .pointer (some ⟨b3, 0, none⟩)] w fun e w' => e = .returned (.int .i64 (impl_SettleHold.g a2 a3 (l0.getD i z53)).2) ∧ Kd.R k53 53 w' w0.heap.size ok (.slice (some ⟨g, 0, none⟩) n cap) (l0.set i (impl_SettleHold.g a2 a3 (l0.getD i z53)).1) ∧ Below w0.heap.size w0 w' ∧ Kept w w' (fun k => k = g) := by
  obtain ⟨_, hg, _, _, _, cur, hb, hs, _⟩ := impl_change.flat.blockG ho
  obtain ⟨x, hx⟩ : ∃ x, x = l0.getD i z53 := ⟨_, rfl⟩
  have he : ∀ j, j < 5 → cur[i * 5 + j]? = (impl_change.enc x)[j]? := fun j hj => by rw [hx]; exact Go.Proofs.Ytdbfjakhkclggaa.Slc.flat_elem impl_change.flat ho hb hi z53 j hj
  have hlt : ∀ j, j < 5 → i * 5 + j < cur.size := fun j hj => by
    have := he j hj
    rcases Nat.lt_or_ge (i * 5 + j) cur.size with h | h
    · exact h
    · rw [Array.getElem?_eq_none h, List.getElem?_eq_getElem hj] at this
      cases this
  have x0 : w.cell? ⟨g, i * 5, none⟩ = some (.int .u64 x.f0) := (blk_cell hb _).trans (he 0 (by omega))
  have x1 : w.cell? ⟨g, i * 5 + 1, none⟩ = some (.int .u64 x.f1) := (blk_cell hb _).trans (he 1 (by omega))
  have x2 : w.cell? ⟨g, i * 5 + 2, none⟩ = some (.int .u64 x.f2) := (blk_cell hb _).trans (he 2 (by omega))
  have x3 : w.cell? ⟨g, i * 5 + 3, none⟩ = some (.int .u64 x.f3) := (blk_cell hb _).trans (he 3 (by omega))
  have x4 : w.cell? ⟨g, i * 5 + 4, none⟩ = some (.int .i64 x.f4) := (blk_cell hb _).trans (he 4 (by omega))
  have f0 : w.frozen? ⟨g, i * 5, none⟩ = false := blk_frozen hb _
  have f1 : w.frozen? ⟨g, i * 5 + 1, none⟩ = false := blk_frozen hb _
  have f2 : w.frozen? ⟨g, i * 5 + 2, none⟩ = false := blk_frozen hb _
  have f3 : w.frozen? ⟨g, i * 5 + 3, none⟩ = false := blk_frozen hb _
  have f4 : w.frozen? ⟨g, i * 5 + 4, none⟩ = false := blk_frozen hb _
  rw [← hx]
  -- the row as it was, and as it is when cells of the element are written
  have same : ∀ W : World, (∀ k, W.heap[k]? = w.heap[k]?) → Kd.R k53 53 W w0.heap.size ok (.slice (some ⟨g, 0, none⟩) n cap) (l0.set i x) := fun W hW => by
    refine Go.Proofs.Ytdbfjakhkclggaa.Slc.flat_upd impl_change.flat ho hi hb ((hW g).trans hb) rfl (fun j hj => he j hj) (fun q _ => rfl)
  have HS := Aside0.mk same
  have HBl := Aside0.mk hB
  have HG := Aside0.mk hg
  have HO := Aside0.mk ho
  have Hb := Aside0.mk hb
  have HE := Aside0.mk he
  have HI := Aside0.mk hi
  have HL := Aside0.mk hlt
  clear same hB hg ho hb he hi hlt hs hx
  have hu := Try.underlying53
  by_cases h4 : ¬ x.f4 = a2
  · have ch4 := show (x.f4 != a2) = true by simpa using h4
    go_enter Try.func63, Try.ntmps63
    go_wp2
    repeat (go_region; try go_wp2)
    go_ret
    rw [show impl_SettleHold.g a2 a3 x = (x, 7) by simp [impl_SettleHold.g, h4]]
    exact ⟨rfl, HS.out _ (fun _ => rfl), u6_14, u6_13⟩
  have ch4 := show (x.f4 != a2) = false by simpa using h4
  go_enter Try.func63, Try.ntmps63
  go_wp2
  repeat (go_region; try go_wp2)
  go_ret
  rw [show impl_SettleHold.g a2 a3 x = (⟨a3, IntKind.u64.wrap (x.f1 + x.f3), 0, 0, 0⟩, 0) by simp [impl_SettleHold.g, h4]]
  obtain ⟨W, hW⟩ : ∃ W, W = (((((w.setCell ⟨g, i * 5, none⟩ (.int .u64 (a3))).setCell ⟨g, i * 5 + 1, none⟩ (.int .u64 (IntKind.u64.wrap (x.f1 + x.f3)))).setCell ⟨g, i * 5 + 2, none⟩ (.int .u64 (0))).setCell ⟨g, i * 5 + 3, none⟩ (.int .u64 (0))).setCell ⟨g, i * 5 + 4, none⟩ (.int .i64 (0))) := ⟨_, rfl⟩
  have hbW : W.heap[g]? = some (.cells (((((cur.setIfInBounds (i * 5) (.int .u64 (a3))).setIfInBounds (i * 5 + 1) (.int .u64 (IntKind.u64.wrap (x.f1 + x.f3)))).setIfInBounds (i * 5 + 2) (.int .u64 (0))).setIfInBounds (i * 5 + 3) (.int .u64 (0))).setIfInBounds (i * 5 + 4) (.int .i64 (0))) 53 (0, 0)) := by rw [hW]; exact (blk_set (blk_set (blk_set (blk_set (blk_set (w := w) Hb.out (i * 5) (.int .u64 (a3))) (i * 5 + 1) (.int .u64 (IntKind.u64.wrap (x.f1 + x.f3)))) (i * 5 + 2) (.int .u64 (0))) (i * 5 + 3) (.int .u64 (0))) (i * 5 + 4) (.int .i64 (0)))
  have hBW : Below w0.heap.size w0 W := by rw [hW]; exact (below_set (below_set (below_set (below_set (below_set HBl.out HG.out) HG.out) HG.out) HG.out) HG.out)
  have hKW : Kept w W (fun k => k = g) := by rw [hW]; exact (Kept.setCell (S := fun k => k = g) ((Kept.setCell (S := fun k => k = g) ((Kept.setCell (S := fun k => k = g) ((Kept.setCell (S := fun k => k = g) ((Kept.setCell (S := fun k => k = g) (Kept.refl _ _) (p := ⟨g, i * 5, none⟩) (.inl rfl) (.int .u64 (a3)))) (p := ⟨g, i * 5 + 1, none⟩) (.inl rfl) (.int .u64 (IntKind.u64.wrap (x.f1 + x.f3))))) (p := ⟨g, i * 5 + 2, none⟩) (.inl rfl) (.int .u64 (0)))) (p := ⟨g, i * 5 + 3, none⟩) (.inl rfl) (.int .u64 (0)))) (p := ⟨g, i * 5 + 4, none⟩) (.inl rfl) (.int .i64 (0)))
  rw [← hW]
  clear hW
  refine ⟨rfl, Go.Proofs.Ytdbfjakhkclggaa.Slc.flat_upd impl_change.flat HO.out HI.out Hb.out (cur' := (((((cur.setIfInBounds (i * 5) (.int .u64 (a3))).setIfInBounds (i * 5 + 1) (.int .u64 (IntKind.u64.wrap (x.f1 + x.f3)))).setIfInBounds (i * 5 + 2) (.int .u64 (0))).setIfInBounds (i * 5 + 3) (.int .u64 (0))).setIfInBounds (i * 5 + 4) (.int .i64 (0)))) u6_12 (by simp) (fun j hj => ?_) (fun q hq => ?_), by repeat (first | exact hBW | apply below_drew), by repeat (first | exact hKW | apply Kept.drew)⟩
  · have hj : j < 5 := hj
    have e := HE.out j hj
    have hl := HL.out j hj
    show (((((cur.setIfInBounds (i * 5) (.int .u64 (a3))).setIfInBounds (i * 5 + 1) (.int .u64 (IntKind.u64.wrap (x.f1 + x.f3)))).setIfInBounds (i * 5 + 2) (.int .u64 (0))).setIfInBounds (i * 5 + 3) (.int .u64 (0))).setIfInBounds (i * 5 + 4) (.int .i64 (0)))[i * 5 + j]? = _
    rcases (show j = 0 ∨ j = 1 ∨ j = 2 ∨ j = 3 ∨ j = 4 by omega) with rfl | rfl | rfl | rfl | rfl
    · rw [Array.getElem?_setIfInBounds, if_neg (by omega), Array.getElem?_setIfInBounds, if_neg (by omega), Array.getElem?_setIfInBounds, if_neg (by omega), Array.getElem?_setIfInBounds, if_neg (by omega), Array.getElem?_setIfInBounds, if_pos (show i * 5 = i * 5 + 0 from rfl), if_pos (by simpa using hl)]; first | done | rfl
    · rw [Array.getElem?_setIfInBounds, if_neg (by omega), Array.getElem?_setIfInBounds, if_neg (by omega), Array.getElem?_setIfInBounds, if_neg (by omega), Array.getElem?_setIfInBounds, if_pos rfl, if_pos (by simpa using hl)]; first | done | rfl
    · rw [Array.getElem?_setIfInBounds, if_neg (by omega), Array.getElem?_setIfInBounds, if_neg (by omega), Array.getElem?_setIfInBounds, if_pos rfl, if_pos (by simpa using hl)]; first | done | rfl
    · rw [Array.getElem?_setIfInBounds, if_neg (by omega), Array.getElem?_setIfInBounds, if_pos rfl, if_pos (by simpa using hl)]; first | done | rfl
    rw [Array.getElem?_setIfInBounds, if_pos rfl, if_pos (by simpa using hl)]; first | done | rfl
  have hq : q < i * 5 ∨ i * 5 + 5 ≤ q := hq
  rw [Array.getElem?_setIfInBounds, if_neg (by omega), Array.getElem?_setIfInBounds, if_neg (by omega), Array.getElem?_setIfInBounds, if_neg (by omega), Array.getElem?_setIfInBounds, if_neg (by omega), Array.getElem?_setIfInBounds, if_neg (by omega)]

def impl_SettleHold.cf (k : Nat) (l0 : List S53) (a1 a2 a3 : Int) : Option (List S53 × Int) := impl_change.cf (impl_SettleHold.g a2 a3) k l0 a1
theorem impl_SettleHold.cf_mono (l0 : List S53) (a1 a2 a3 : Int) (k : Nat) : LeO (impl_SettleHold.cf k l0 a1 a2 a3) (impl_SettleHold.cf (k + 1) l0 a1 a2 a3) := impl_change.cf_mono _ l0 a1 k
theorem impl_SettleHold.change (k : Nat) (A0 : Option Addr) (c0 : Nat) (l0 : List S53) (a1 a2 a3 : Int) (b2 b3 : Nat) (r1 : List S53) (r2 : Int) (w : World) (hr0 : Kd.C k53 w A0 l0.length l0) (hc0 : l0.length ≤ c0) (p2 : w.cell? ⟨b2, 0, none⟩ = some (.int .i64 a2)) (p3 : w.cell? ⟨b3, 0, none⟩ = some (.int .u64 a3)) (h : impl_SettleHold.cf k l0 a1 a2 a3 = some (r1, r2)) :
    Calls Try.prog 60 #[.agg #[.slice A0 l0.length c0], .int .u64 a1, .func (.func 63) #[] #[.pointer (some ⟨b2, 0, none⟩), .pointer (some ⟨b3, 0, none⟩)]] w fun e w' => ∃ v0_ : Value, e = .returned (.tuple #[.agg #[v0_], .int .i64 r2]) ∧ Kd.R k53 53 w' w.heap.size (fun _ => True) v0_ r1 ∧ Below w.heap.size w w' :=
  impl_change.gen 63 #[.pointer (some ⟨b2, 0, none⟩), .pointer (some ⟨b3, 0, none⟩)] (impl_SettleHold.g a2 a3) k A0 c0 l0 a1 r1 r2 w hr0 hc0 (fun i g1 c1 W hi hg hB ho => impl_SettleHold.lit g1 l0.length c1 i l0 (fun k => k = g1) a2 a3 b2 b3 w W hB ho hi ((hB.cell (World.block_lt_of_cell? w _ p2)).trans p2) (Nat.ne_of_lt (Nat.lt_of_lt_of_le (World.block_lt_of_cell? w _ p2) hg)) ((hB.cell (World.block_lt_of_cell? w _ p3)).trans p3) (Nat.ne_of_lt (Nat.lt_of_lt_of_le (World.block_lt_of_cell? w _ p3) hg))) Try.call63 h
def impl_SettleHold.f (k : Nat) (l0 : List S53) (a1 : Int) (a2 : Int) : Option (List S53 × Int) := if a2 < 1 then (impl_copyBook.f l0).bind fun y => some (y, 1) else impl_SettleHold.cf k l0 a1 a2 a1
theorem impl_SettleHold.mono : ∀ (l0 : List S53) (a1 : Int) (a2 : Int) (k : Nat), LeO (impl_SettleHold.f k l0 a1 a2) (impl_SettleHold.f (k + 1) l0 a1 a2) := fun l0 a1 a2 k => by
  unfold impl_SettleHold.f
  exact LeO.ite (LeO.refl _) (impl_SettleHold.cf_mono _ _ _ _ k)
set_option maxHeartbeats 4000000 in
set_option maxRecDepth 100000 in
theorem impl_SettleHold.calls (k : Nat) (A0 : Option Addr) (c0 : Nat) (l0 : List S53) (a1 : Int) (a2 : Int) (r1 : List S53) (r2 : Int) (w : World) (hr0 : Kd.C k53 w A0 l0.length l0) (hc0 : l0.length ≤ c0) (h : impl_SettleHold.f k l0 a1 a2 = some (r1, r2)) :
    Calls Try.prog 33 #[.agg #[.slice A0 l0.length c0], .int .u64 a1, .int .i64 a2] w fun e w' => ∃ v0_ : Value, e = .returned (.tuple #[.agg #[v0_], .int .i64 r2]) ∧ Kd.R k53 53 w' w.heap.size (fun _ => True) v0_ r1 ∧ Below w.heap.size w w' := by
  have hu := Try.underlying29
  have HR := Aside0.mk hr0
  have HC := Aside0.mk hc0
  have HB := Aside0.mk (Below.refl w.heap.size w)
  clear hr0 hc0
  unfold impl_SettleHold.f at h
  by_cases hg : a2 < 1
  rotate_left
  · rw [if_neg hg] at h
    have HF := Aside0.mk h
    clear h
    have cg := decide_eq_false hg
    go_enter Try.func33, Try.ntmps33
    go_wp2_with (first | ((with_reducible refine gate_dst (N := 3) rfl ?_); refine box_event ?hg (N := 3) ?hd (cs := #[.slice A0 l0.length c0]) (t := 29) ?hr ?_; (case hd => rfl); (case hg => rfl); (case hr => first | (go_simp; done) | (go_simp; rfl)); intro gb3 hg w3 hbox hb; have n0_ := Aside0.mk (below_step u6_0 hb); have n1_ := Aside0.mk (show w.heap.size ≤ gb3 by rw [hg]; exact (below_size u6_0)); have n2_ := Aside0.mk hbox; clear HB; have HB := n0_; have G3 := n1_; have BK3 := n2_; clear n0_ n1_ n2_; clear hbox hg hb; (try clear c3_ f3_); have c3_ : w3.cell? ⟨gb3, 0, none⟩ = some (.slice A0 l0.length c0) := (blk_cell BK3.out 0).trans rfl; have f3_ := blk_frozen BK3.out 0) | ((with_reducible refine gate_dst (N := 4) rfl ?_); refine box_event ?hg (N := 4) ?hd (cs := #[.int .u64 a1]) (t := 33) ?hr ?_; (case hd => rfl); (case hg => rfl); (case hr => first | (go_simp; done) | (go_simp; rfl)); intro gb4 hg w4 hbox hb; have n0_ := Aside0.mk (below_step u6_0 hb); have n1_ := Aside0.mk (show w.heap.size ≤ gb4 by rw [hg]; exact (below_size u6_0)); have n2_ := Aside0.mk hbox; have m3_ := Aside0.mk (blk_below (g := gb3) (o := .cells #[.slice A0 l0.length c0] 29 (0, 0)) u6_1 hb); have N3_4 := (show gb3 ≠ gb4 by rw [hg]; exact Nat.ne_of_lt (blk_lt (g := gb3) (o := .cells #[.slice A0 l0.length c0] 29 (0, 0)) u6_1)); have N4_3 := (N3_4).symm; clear HB; have HB := n0_; have G4 := n1_; have BK4 := n2_; clear n0_ n1_ n2_; clear BK3; have BK3 := m3_; clear m3_; clear hbox hg hb; (try clear c3_ f3_); have c3_ : w4.cell? ⟨gb3, 0, none⟩ = some (.slice A0 l0.length c0) := (blk_cell BK3.out 0).trans rfl; have f3_ := blk_frozen BK3.out 0; (try clear c4_ f4_); have c4_ : w4.cell? ⟨gb4, 0, none⟩ = some (.int .u64 a1) := (blk_cell BK4.out 0).trans rfl; have f4_ := blk_frozen BK4.out 0) | ((with_reducible refine gate_dst (N := 5) rfl ?_); refine box_event ?hg (N := 5) ?hd (cs := #[.int .i64 a2]) (t := 3) ?hr ?_; (case hd => rfl); (case hg => rfl); (case hr => first | (go_simp; done) | (go_simp; rfl)); intro gb5 hg w5 hbox hb; have n0_ := Aside0.mk (below_step u6_0 hb); have n1_ := Aside0.mk (show w.heap.size ≤ gb5 by rw [hg]; exact (below_size u6_0)); have n2_ := Aside0.mk hbox; have m3_ := Aside0.mk (blk_below (g := gb3) (o := .cells #[.slice A0 l0.length c0] 29 (0, 0)) u6_1 hb); have N3_5 := (show gb3 ≠ gb5 by rw [hg]; exact Nat.ne_of_lt (blk_lt (g := gb3) (o := .cells #[.slice A0 l0.length c0] 29 (0, 0)) u6_1)); have N5_3 := (N3_5).symm; have m4_ := Aside0.mk (blk_below (g := gb4) (o := .cells #[.int .u64 a1] 33 (0, 0)) u6_2 hb); have N4_5 := (show gb4 ≠ gb5 by rw [hg]; exact Nat.ne_of_lt (blk_lt (g := gb4) (o := .cells #[.int .u64 a1] 33 (0, 0)) u6_2)); have N5_4 := (N4_5).symm; clear HB; have HB := n0_; have G5 := n1_; have BK5 := n2_; clear n0_ n1_ n2_; clear BK3; have BK3 := m3_; clear m3_; clear BK4; have BK4 := m4_; clear m4_; clear hbox hg hb; (try clear c3_ f3_); have c3_ : w5.cell? ⟨gb3, 0, none⟩ = some (.slice A0 l0.length c0) := (blk_cell BK3.out 0).trans rfl; have f3_ := blk_frozen BK3.out 0; (try clear c4_ f4_); have c4_ : w5.cell? ⟨gb4, 0, none⟩ = some (.int .u64 a1) := (blk_cell BK4.out 0).trans rfl; have f4_ := blk_frozen BK4.out 0; (try clear c5_ f5_); have c5_ : w5.cell? ⟨gb5, 0, none⟩ = some (.int .i64 a2) := (blk_cell BK5.out 0).trans rfl; have f5_ := blk_frozen BK5.out 0) | ((with_reducible refine gate_dst (N := 6) rfl ?_); refine box_event ?hg (N := 6) ?hd (cs := #[.slice none 0 0]) (t := 29) ?hr ?_; (case hd => rfl); (case hg => rfl); (case hr => first | (go_simp; done) | (go_simp; rfl)); intro gb6 hg w6 hbox hb; have n0_ := Aside0.mk (below_step u6_0 hb); have n1_ := Aside0.mk (show w.heap.size ≤ gb6 by rw [hg]; exact (below_size u6_0)); have n2_ := Aside0.mk hbox; have m3_ := Aside0.mk (blk_below (g := gb3) (o := .cells #[.slice A0 l0.length c0] 29 (0, 0)) u6_1 hb); have N3_6 := (show gb3 ≠ gb6 by rw [hg]; exact Nat.ne_of_lt (blk_lt (g := gb3) (o := .cells #[.slice A0 l0.length c0] 29 (0, 0)) u6_1)); have N6_3 := (N3_6).symm; have m4_ := Aside0.mk (blk_below (g := gb4) (o := .cells #[.int .u64 a1] 33 (0, 0)) u6_2 hb); have N4_6 := (show gb4 ≠ gb6 by rw [hg]; exact Nat.ne_of_lt (blk_lt (g := gb4) (o := .cells #[.int .u64 a1] 33 (0, 0)) u6_2)); have N6_4 := (N4_6).symm; have m5_ := Aside0.mk (blk_below (g := gb5) (o := .cells #[.int .i64 a2] 3 (0, 0)) u6_5 hb); have N5_6 := (show gb5 ≠ gb6 by rw [hg]; exact Nat.ne_of_lt (blk_lt (g := gb5) (o := .cells #[.int .i64 a2] 3 (0, 0)) u6_5)); have N6_5 := (N5_6).symm; clear HB; have HB := n0_; have G6 := n1_; have BK6 := n2_; clear n0_ n1_ n2_; clear BK3; have BK3 := m3_; clear m3_; clear BK4; have BK4 := m4_; clear m4_; clear BK5; have BK5 := m5_; clear m5_; clear hbox hg hb; (try clear c3_ f3_); have c3_ : w6.cell? ⟨gb3, 0, none⟩ = some (.slice A0 l0.length c0) := (blk_cell BK3.out 0).trans rfl; have f3_ := blk_frozen BK3.out 0; (try clear c4_ f4_); have c4_ : w6.cell? ⟨gb4, 0, none⟩ = some (.int .u64 a1) := (blk_cell BK4.out 0).trans rfl; have f4_ := blk_frozen BK4.out 0; (try clear c5_ f5_); have c5_ : w6.cell? ⟨gb5, 0, none⟩ = some (.int .i64 a2) := (blk_cell BK5.out 0).trans rfl; have f5_ := blk_frozen BK5.out 0; (try clear c6_ f6_); have c6_ : w6.cell? ⟨gb6, 0, none⟩ = some (.slice none 0 0) := (blk_cell BK6.out 0).trans rfl; have f6_ := blk_frozen BK6.out 0) | ((with_reducible refine gate_callee (f := 60) rfl ?_); refine goesL_ (some 15) rfl rfl Try.func60 (by kernel_rfl) rfl #[.agg #[.slice A0 l0.length c0], .int .u64 a1, .func (.func 63) #[] #[.pointer (some ⟨gb5, 0, none⟩), .pointer (some ⟨gb4, 0, none⟩)]] rfl u6_6 ?_; (with_reducible refine (impl_SettleHold.change k _ _ l0 a1 a2 a1 gb5 gb4 _ _ _ ?side1 ?side2 c5_ c4_ HF.out).mono ?_); (case side1 => exact Kd.C_below HR.out HB.out); (case side2 => exact HC.out); rintro e w20 ⟨v20, rfl, ho0, hb⟩; refine ⟨_, rfl, ?_⟩; have HO := Aside0.mk (Kd.R_lower ho0 HB.out.size); obtain ⟨A1, c1, ev1⟩ := Kd.R_slice HO.out; subst ev1; have n1_ := Aside0.mk (below_step HB.out hb); have m_ := Aside0.mk (blk_below (g := gb6) (o := .cells #[.slice none 0 0] 29 (0, 0)) BK6.out hb); clear HB BK6; have HB := n1_; have BK6 := m_; clear n1_ m_; clear hb ho0; (try clear c6_ f6_); have c6_ : w20.cell? ⟨gb6, 0, none⟩ = some (.slice none 0 0) := (blk_cell BK6.out 0).trans rfl; have f6_ := blk_frozen BK6.out 0))
    refine bodyPost_ret (results_ct rfl _ _ gb6 29 #[.slice A1 r1.length c1] (0, 0) _ rfl (blk_put (cs := #[.slice none 0 0]) BK6.out 0 _ rfl) Try.underlying29 rfl (by kernel_rfl)) rfl ?_
    exact ⟨_, rfl, Kd.R_mono (Kd.R_far (p := ⟨gb6, 0, none⟩) (Kd.R_types HO.out BK6.out (by decide)) (fun _ hk => hk.2) _) (fun _ _ => trivial), below_set HB.out G6.out⟩
  rw [if_pos hg] at h
  obtain ⟨y, hy, h⟩ := Option.bind_eq_some_iff.1 h
  obtain ⟨rfl, rfl⟩ : y = r1 ∧ 1 = r2 := by injection h with h; injection h with h1 h2; exact ⟨h1, h2⟩
  have HF := Aside0.mk hy
  clear h hy
  have cg := decide_eq_true hg
  go_enter Try.func33, Try.ntmps33
  go_wp2_with (first | ((with_reducible refine gate_dst (N := 3) rfl ?_); refine box_event ?hg (N := 3) ?hd (cs := #[.slice A0 l0.length c0]) (t := 29) ?hr ?_; (case hd => rfl); (case hg => rfl); (case hr => first | (go_simp; done) | (go_simp; rfl)); intro gb3 hg w3 hbox hb; have n0_ := Aside0.mk (below_step u6_0 hb); have n1_ := Aside0.mk (show w.heap.size ≤ gb3 by rw [hg]; exact (below_size u6_0)); have n2_ := Aside0.mk hbox; clear HB; have HB := n0_; have G3 := n1_; have BK3 := n2_; clear n0_ n1_ n2_; clear hbox hg hb; (try clear c3_ f3_); have c3_ : w3.cell? ⟨gb3, 0, none⟩ = some (.slice A0 l0.length c0) := (blk_cell BK3.out 0).trans rfl; have f3_ := blk_frozen BK3.out 0) | ((with_reducible refine gate_dst (N := 4) rfl ?_); refine box_event ?hg (N := 4) ?hd (cs := #[.int .u64 a1]) (t := 33) ?hr ?_; (case hd => rfl); (case hg => rfl); (case hr => first | (go_simp; done) | (go_simp; rfl)); intro gb4 hg w4 hbox hb; have n0_ := Aside0.mk (below_step u6_0 hb); have n1_ := Aside0.mk (show w.heap.size ≤ gb4 by rw [hg]; exact (below_size u6_0)); have n2_ := Aside0.mk hbox; have m3_ := Aside0.mk (blk_below (g := gb3) (o := .cells #[.slice A0 l0.length c0] 29 (0, 0)) u6_1 hb); have N3_4 := (show gb3 ≠ gb4 by rw [hg]; exact Nat.ne_of_lt (blk_lt (g := gb3) (o := .cells #[.slice A0 l0.length c0] 29 (0, 0)) u6_1)); have N4_3 := (N3_4).symm; clear HB; have HB := n0_; have G4 := n1_; have BK4 := n2_; clear n0_ n1_ n2_; clear BK3; have BK3 := m3_; clear m3_; clear hbox hg hb; (try clear c3_ f3_); have c3_ : w4.cell? ⟨gb3, 0, none⟩ = some (.slice A0 l0.length c0) := (blk_cell BK3.out 0).trans rfl; have f3_ := blk_frozen BK3.out 0; (try clear c4_ f4_); have c4_ : w4.cell? ⟨gb4, 0, none⟩ = some (.int .u64 a1) := (blk_cell BK4.out 0).trans rfl; have f4_ := blk_frozen BK4.out 0) | ((with_reducible refine gate_dst (N := 5) rfl ?_); refine box_event ?hg (N := 5) ?hd (cs := #[.int .i64 a2]) (t := 3) ?hr ?_; (case hd => rfl); (case hg => rfl); (case hr => first | (go_simp; done) | (go_simp; rfl)); intro gb5 hg w5 hbox hb; have n0_ := Aside0.mk (below_step u6_0 hb); have n1_ := Aside0.mk (show w.heap.size ≤ gb5 by rw [hg]; exact (below_size u6_0)); have n2_ := Aside0.mk hbox; have m3_ := Aside0.mk (blk_below (g := gb3) (o := .cells #[.slice A0 l0.length c0] 29 (0, 0)) u6_1 hb); have N3_5 := (show gb3 ≠ gb5 by rw [hg]; exact Nat.ne_of_lt (blk_lt (g := gb3) (o := .cells #[.slice A0 l0.length c0] 29 (0, 0)) u6_1)); have N5_3 := (N3_5).symm; have m4_ := Aside0.mk (blk_below (g := gb4) (o := .cells #[.int .u64 a1] 33 (0, 0)) u6_2 hb); have N4_5 := (show gb4 ≠ gb5 by rw [hg]; exact Nat.ne_of_lt (blk_lt (g := gb4) (o := .cells #[.int .u64 a1] 33 (0, 0)) u6_2)); have N5_4 := (N4_5).symm; clear HB; have HB := n0_; have G5 := n1_; have BK5 := n2_; clear n0_ n1_ n2_; clear BK3; have BK3 := m3_; clear m3_; clear BK4; have BK4 := m4_; clear m4_; clear hbox hg hb; (try clear c3_ f3_); have c3_ : w5.cell? ⟨gb3, 0, none⟩ = some (.slice A0 l0.length c0) := (blk_cell BK3.out 0).trans rfl; have f3_ := blk_frozen BK3.out 0; (try clear c4_ f4_); have c4_ : w5.cell? ⟨gb4, 0, none⟩ = some (.int .u64 a1) := (blk_cell BK4.out 0).trans rfl; have f4_ := blk_frozen BK4.out 0; (try clear c5_ f5_); have c5_ : w5.cell? ⟨gb5, 0, none⟩ = some (.int .i64 a2) := (blk_cell BK5.out 0).trans rfl; have f5_ := blk_frozen BK5.out 0) | ((with_reducible refine gate_dst (N := 6) rfl ?_); refine box_event ?hg (N := 6) ?hd (cs := #[.slice none 0 0]) (t := 29) ?hr ?_; (case hd => rfl); (case hg => rfl); (case hr => first | (go_simp; done) | (go_simp; rfl)); intro gb6 hg w6 hbox hb; have n0_ := Aside0.mk (below_step u6_0 hb); have n1_ := Aside0.mk (show w.heap.size ≤ gb6 by rw [hg]; exact (below_size u6_0)); have n2_ := Aside0.mk hbox; have m3_ := Aside0.mk (blk_below (g := gb3) (o := .cells #[.slice A0 l0.length c0] 29 (0, 0)) u6_1 hb); have N3_6 := (show gb3 ≠ gb6 by rw [hg]; exact Nat.ne_of_lt (blk_lt (g := gb3) (o := .cells #[.slice A0 l0.length c0] 29 (0, 0)) u6_1)); have N6_3 := (N3_6).symm; have m4_ := Aside0.mk (blk_below (g := gb4) (o := .cells #[.int .u64 a1] 33 (0, 0)) u6_2 hb); have N4_6 := (show gb4 ≠ gb6 by rw [hg]; exact Nat.ne_of_lt (blk_lt (g := gb4) (o := .cells #[.int .u64 a1] 33 (0, 0)) u6_2)); have N6_4 := (N4_6).symm; have m5_ := Aside0.mk (blk_below (g := gb5) (o := .cells #[.int .i64 a2] 3 (0, 0)) u6_5 hb); have N5_6 := (show gb5 ≠ gb6 by rw [hg]; exact Nat.ne_of_lt (blk_lt (g := gb5) (o := .cells #[.int .i64 a2] 3 (0, 0)) u6_5)); have N6_5 := (N5_6).symm; clear HB; have HB := n0_; have G6 := n1_; have BK6 := n2_; clear n0_ n1_ n2_; clear BK3; have BK3 := m3_; clear m3_; clear BK4; have BK4 := m4_; clear m4_; clear BK5; have BK5 := m5_; clear m5_; clear hbox hg hb; (try clear c3_ f3_); have c3_ : w6.cell? ⟨gb3, 0, none⟩ = some (.slice A0 l0.length c0) := (blk_cell BK3.out 0).trans rfl; have f3_ := blk_frozen BK3.out 0; (try clear c4_ f4_); have c4_ : w6.cell? ⟨gb4, 0, none⟩ = some (.int .u64 a1) := (blk_cell BK4.out 0).trans rfl; have f4_ := blk_frozen BK4.out 0; (try clear c5_ f5_); have c5_ : w6.cell? ⟨gb5, 0, none⟩ = some (.int .i64 a2) := (blk_cell BK5.out 0).trans rfl; have f5_ := blk_frozen BK5.out 0; (try clear c6_ f6_); have c6_ : w6.cell? ⟨gb6, 0, none⟩ = some (.slice none 0 0) := (blk_cell BK6.out 0).trans rfl; have f6_ := blk_frozen BK6.out 0) | ((with_reducible refine gate_callee (f := 56) rfl ?_); refine goesL_ (some 11) rfl rfl Try.func56 (by kernel_rfl) rfl #[.agg #[.slice A0 l0.length c0]] rfl u6_6 ?_; (with_reducible refine (impl_copyBook.calls _ _ l0 y _ ?side1 ?side2 HF.out).mono ?_); (case side1 => exact Kd.C_below HR.out HB.out); (case side2 => exact HC.out); rintro e w20 ⟨v20, rfl, ho0, hb⟩; refine ⟨_, rfl, ?_⟩; have HO := Aside0.mk (Kd.R_lower ho0 HB.out.size); obtain ⟨A1, c1, ev1⟩ := Kd.R_slice HO.out; subst ev1; have n1_ := Aside0.mk (below_step HB.out hb); have m_ := Aside0.mk (blk_below (g := gb6) (o := .cells #[.slice none 0 0] 29 (0, 0)) BK6.out hb); clear HB BK6; have HB := n1_; have BK6 := m_; clear n1_ m_; clear hb ho0; (try clear c6_ f6_); have c6_ : w20.cell? ⟨gb6, 0, none⟩ = some (.slice none 0 0) := (blk_cell BK6.out 0).trans rfl; have f6_ := blk_frozen BK6.out 0))
  refine bodyPost_ret (results_ct rfl _ _ gb6 29 #[.slice A1 y.length c1] (0, 0) _ rfl (blk_put (cs := #[.slice none 0 0]) BK6.out 0 _ rfl) Try.underlying29 rfl (by kernel_rfl)) rfl ?_
  exact ⟨_, rfl, Kd.R_mono (Kd.R_far (p := ⟨gb6, 0, none⟩) (Kd.R_types HO.out BK6.out (by decide)) (fun _ hk => hk.2) _) (fun _ _ => trivial), below_set HB.out G6.out⟩


/-! ### impl_Withdraw: function 37 -/
/-- What the literal makes of an account, and its code. -/
def impl_Withdraw.g (a2 : Int) (x : S53) : S53 × Int := if ¬ x.f4 = 0 then (x, 6) else if x.f1 < a2 then (x, 4) else (⟨x.f0, IntKind.u64.wrap (x.f1 - a2), x.f2, x.f3, x.f4⟩, 0)
set_option maxHeartbeats 1600000 in
theorem impl_Withdraw.lit (g n cap i : Nat) (l0 : List S53) (ok : Nat → Prop) (a2 : Int) (b2 : Nat) (w0 w : World) (hB : Below w0.heap.size w0 w) (ho : Kd.R k53 53 w w0.heap.size ok (.slice (some ⟨g, 0, none⟩) n cap) l0) (hi : i < l0.length) (p2 : w.cell? ⟨b2, 0, none⟩ = some (.int .u64 a2)) (q2 : b2 ≠ g) :
    Calls Try.prog 65 #[.pointer (some ⟨g, i * 5, none⟩), .pointer (some ⟨b2, 0, none⟩)] w fun e w' => e = .returned (.int .i64 (impl_Withdraw.g a2 (l0.getD i z53)).2) ∧ Kd.R k53 53 w' w0.heap.size ok (.slice (some ⟨g, 0, none⟩) n cap) (l0.set i (impl_Withdraw.g a2 (l0.getD i z53)).1) ∧ Below w0.heap.size w0 w' ∧ Kept w w' (fun k => k = g) := by
  obtain ⟨_, hg, _, _, _, cur, hb, hs, _⟩ := impl_change.flat.blockG ho
  obtain ⟨x, hx⟩ : ∃ x, x = l0.getD i z53 := ⟨_, rfl⟩
  have he : ∀ j, j < 5 → cur[i * 5 + j]? = (impl_change.enc x)[j]? := fun j hj => by rw [hx]; exact Go.Proofs.Ytdbfjakhkclggaa.Slc.flat_elem impl_change.flat ho hb hi z53 j hj
  have hlt : ∀ j, j < 5 → i * 5 + j < cur.size := fun j hj => by
    have := he j hj
    rcases Nat.lt_or_ge (i * 5 + j) cur.size with h | h
    · exact h
    · rw [Array.getElem?_eq_none h, List.getElem?_eq_getElem hj] at this
      cases this
  have x0 : w.cell? ⟨g, i * 5, none⟩ = some (.int .u64 x.f0) := (blk_cell hb _).trans (he 0 (by omega))
  have x1 : w.cell? ⟨g, i * 5 + 1, none⟩ = some (.int .u64 x.f1) := (blk_cell hb _).trans (he 1 (by omega))
  have x2 : w.cell? ⟨g, i * 5 + 2, none⟩ = some (.int .u64 x.f2) := (blk_cell hb _).trans (he 2 (by omega))
  have x3 : w.cell? ⟨g, i * 5 + 3, none⟩ = some (.int .u64 x.f3) := (blk_cell hb _).trans (he 3 (by omega))
  have x4 : w.cell? ⟨g, i * 5 + 4, none⟩ = some (.int .i64 x.f4) := (blk_cell hb _).trans (he 4 (by omega))
  have f0 : w.frozen? ⟨g, i * 5, none⟩ = false := blk_frozen hb _
  have f1 : w.frozen? ⟨g, i * 5 + 1, none⟩ = false := blk_frozen hb _
  have f2 : w.frozen? ⟨g, i * 5 + 2, none⟩ = false := blk_frozen hb _
  have f3 : w.frozen? ⟨g, i * 5 + 3, none⟩ = false := blk_frozen hb _
  have f4 : w.frozen? ⟨g, i * 5 + 4, none⟩ = false := blk_frozen hb _
  rw [← hx]
  -- the row as it was, and as it is when cells of the element are written
  have same : ∀ W : World, (∀ k, W.heap[k]? = w.heap[k]?) → Kd.R k53 53 W w0.heap.size ok (.slice (some ⟨g, 0, none⟩) n cap) (l0.set i x) := fun W hW => by
    refine Go.Proofs.Ytdbfjakhkclggaa.Slc.flat_upd impl_change.flat ho hi hb ((hW g).trans hb) rfl (fun j hj => he j hj) (fun q _ => rfl)
  have HS := Aside0.mk same
  have HBl := Aside0.mk hB
  have HG := Aside0.mk hg
  have HO := Aside0.mk ho
  have Hb := Aside0.mk hb
  have HE := Aside0.mk he
  have HI := Aside0.mk hi
  have HL := Aside0.mk hlt
  clear same hB hg ho hb he hi hlt hs hx
  have hu := Try.underlying53
  by_cases h4 : ¬ x.f4 = 0
  · have ch4 := show (x.f4 != 0) = true by simpa using h4
    go_enter Try.func65, Try.ntmps65
    go_wp2
    repeat (go_region; try go_wp2)
    go_ret
    rw [show impl_Withdraw.g a2 x = (x, 6) by simp [impl_Withdraw.g, h4]]
    exact ⟨rfl, HS.out _ (fun _ => rfl), u6_14, u6_13⟩
  have ch4 := show (x.f4 != 0) = false by simpa using h4
  by_cases h5 : x.f1 < a2
  · have ch5 := decide_eq_true h5
    go_enter Try.func65, Try.ntmps65
    go_wp2
    repeat (go_region; try go_wp2)
    go_ret
    rw [show impl_Withdraw.g a2 x = (x, 4) by simp [impl_Withdraw.g, h4, h5]]
    exact ⟨rfl, HS.out _ (fun _ => rfl), u6_14, u6_13⟩
  have ch5 := decide_eq_false h5
  go_enter Try.func65, Try.ntmps65
  go_wp2
  repeat (go_region; try go_wp2)
  go_ret
  rw [show impl_Withdraw.g a2 x = (⟨x.f0, IntKind.u64.wrap (x.f1 - a2), x.f2, x.f3, x.f4⟩, 0) by simp [impl_Withdraw.g, h4, h5]]
  obtain ⟨W, hW⟩ : ∃ W, W = (w.setCell ⟨g, i * 5 + 1, none⟩ (.int .u64 (IntKind.u64.wrap (x.f1 - a2)))) := ⟨_, rfl⟩
  have hbW : W.heap[g]? = some (.cells (cur.setIfInBounds (i * 5 + 1) (.int .u64 (IntKind.u64.wrap (x.f1 - a2)))) 53 (0, 0)) := by rw [hW]; exact (blk_set (w := w) Hb.out (i * 5 + 1) (.int .u64 (IntKind.u64.wrap (x.f1 - a2))))
  have hBW : Below w0.heap.size w0 W := by rw [hW]; exact (below_set HBl.out HG.out)
  have hKW : Kept w W (fun k => k = g) := by rw [hW]; exact (Kept.setCell (S := fun k => k = g) (Kept.refl _ _) (p := ⟨g, i * 5 + 1, none⟩) (.inl rfl) (.int .u64 (IntKind.u64.wrap (x.f1 - a2))))
  rw [← hW]
  clear hW
  refine ⟨rfl, Go.Proofs.Ytdbfjakhkclggaa.Slc.flat_upd impl_change.flat HO.out HI.out Hb.out (cur' := (cur.setIfInBounds (i * 5 + 1) (.int .u64 (IntKind.u64.wrap (x.f1 - a2))))) u6_12 (by simp) (fun j hj => ?_) (fun q hq => ?_), by repeat (first | exact hBW | apply below_drew), by repeat (first | exact hKW | apply Kept.drew)⟩
  · have hj : j < 5 := hj
    have e := HE.out j hj
    have hl := HL.out j hj
    show (cur.setIfInBounds (i * 5 + 1) (.int .u64 (IntKind.u64.wrap (x.f1 - a2))))[i * 5 + j]? = _
    rcases (show j = 0 ∨ j = 1 ∨ j = 2 ∨ j = 3 ∨ j = 4 by omega) with rfl | rfl | rfl | rfl | rfl
    · rw [Array.getElem?_setIfInBounds, if_neg (by omega)]; exact e
    · rw [Array.getElem?_setIfInBounds, if_pos rfl, if_pos (by simpa using hl)]; first | done | rfl
    · rw [Array.getElem?_setIfInBounds, if_neg (by omega)]; exact e
    · rw [Array.getElem?_setIfInBounds, if_neg (by omega)]; exact e
    rw [Array.getElem?_setIfInBounds, if_neg (by omega)]; exact e
  have hq : q < i * 5 ∨ i * 5 + 5 ≤ q := hq
  rw [Array.getElem?_setIfInBounds, if_neg (by omega)]

def impl_Withdraw.cf (k : Nat) (l0 : List S53) (a1 a2 : Int) : Option (List S53 × Int) := impl_change.cf (impl_Withdraw.g a2) k l0 a1
theorem impl_Withdraw.cf_mono (l0 : List S53) (a1 a2 : Int) (k : Nat) : LeO (impl_Withdraw.cf k l0 a1 a2) (impl_Withdraw.cf (k + 1) l0 a1 a2) := impl_change.cf_mono _ l0 a1 k
theorem impl_Withdraw.change (k : Nat) (A0 : Option Addr) (c0 : Nat) (l0 : List S53) (a1 a2 : Int) (b2 : Nat) (r1 : List S53) (r2 : Int) (w : World) (hr0 : Kd.C k53 w A0 l0.length l0) (hc0 : l0.length ≤ c0) (p2 : w.cell? ⟨b2, 0, none⟩ = some (.int .u64 a2)) (h : impl_Withdraw.cf k l0 a1 a2 = some (r1, r2)) :
    Calls Try.prog 60 #[.agg #[.slice A0 l0.length c0], .int .u64 a1, .func (.func 65) #[] #[.pointer (some ⟨b2, 0, none⟩)]] w fun e w' => ∃ v0_ : Value, e = .returned (.tuple #[.agg #[v0_], .int .i64 r2]) ∧ Kd.R k53 53 w' w.heap.size (fun _ => True) v0_ r1 ∧ Below w.heap.size w w' :=
  impl_change.gen 65 #[.pointer (some ⟨b2, 0, none⟩)] (impl_Withdraw.g a2) k A0 c0 l0 a1 r1 r2 w hr0 hc0 (fun i g1 c1 W hi hg hB ho => impl_Withdraw.lit g1 l0.length c1 i l0 (fun k => k = g1) a2 b2 w W hB ho hi ((hB.cell (World.block_lt_of_cell? w _ p2)).trans p2) (Nat.ne_of_lt (Nat.lt_of_lt_of_le (World.block_lt_of_cell? w _ p2) hg))) Try.call65 h
def impl_Withdraw.f (k : Nat) (l0 : List S53) (a1 : Int) (a2 : Int) : Option (List S53 × Int) := impl_Withdraw.cf k l0 a1 a2
theorem impl_Withdraw.mono : ∀ (l0 : List S53) (a1 : Int) (a2 : Int) (k : Nat), LeO (impl_Withdraw.f k l0 a1 a2) (impl_Withdraw.f (k + 1) l0 a1 a2) := fun l0 a1 a2 k => by
  unfold impl_Withdraw.f
  exact impl_Withdraw.cf_mono _ _ _ k
set_option maxHeartbeats 4000000 in
set_option maxRecDepth 100000 in
theorem impl_Withdraw.calls (k : Nat) (A0 : Option Addr) (c0 : Nat) (l0 : List S53) (a1 : Int) (a2 : Int) (r1 : List S53) (r2 : Int) (w : World) (hr0 : Kd.C k53 w A0 l0.length l0) (hc0 : l0.length ≤ c0) (h : impl_Withdraw.f k l0 a1 a2 = some (r1, r2)) :
    Calls Try.prog 37 #[.agg #[.slice A0 l0.length c0], .int .u64 a1, .int .u64 a2] w fun e w' => ∃ v0_ : Value, e = .returned (.tuple #[.agg #[v0_], .int .i64 r2]) ∧ Kd.R k53 53 w' w.heap.size (fun _ => True) v0_ r1 ∧ Below w.heap.size w w' := by
  have hu := Try.underlying29
  have HR := Aside0.mk hr0
  have HC := Aside0.mk hc0
  have HB := Aside0.mk (Below.refl w.heap.size w)
  clear hr0 hc0
  unfold impl_Withdraw.f at h
  have HF := Aside0.mk h
  clear h
  go_enter Try.func37, Try.ntmps37
  go_wp2_with (first | ((with_reducible refine gate_dst (N := 3) rfl ?_); refine box_event ?hg (N := 3) ?hd (cs := #[.slice A0 l0.length c0]) (t := 29) ?hr ?_; (case hd => rfl); (case hg => rfl); (case hr => first | (go_simp; done) | (go_simp; rfl)); intro gb3 hg w3 hbox hb; have n0_ := Aside0.mk (below_step u6_0 hb); have n1_ := Aside0.mk (show w.heap.size ≤ gb3 by rw [hg]; exact (below_size u6_0)); have n2_ := Aside0.mk hbox; clear HB; have HB := n0_; have G3 := n1_; have BK3 := n2_; clear n0_ n1_ n2_; clear hbox hg hb; (try clear c3_ f3_); have c3_ : w3.cell? ⟨gb3, 0, none⟩ = some (.slice A0 l0.length c0) := (blk_cell BK3.out 0).trans rfl; have f3_ := blk_frozen BK3.out 0) | ((with_reducible refine gate_dst (N := 5) rfl ?_); refine box_event ?hg (N := 5) ?hd (cs := #[.int .u64 a2]) (t := 33) ?hr ?_; (case hd => rfl); (case hg => rfl); (case hr => first | (go_simp; done) | (go_simp; rfl)); intro gb5 hg w5 hbox hb; have n0_ := Aside0.mk (below_step u6_0 hb); have n1_ := Aside0.mk (show w.heap.size ≤ gb5 by rw [hg]; exact (below_size u6_0)); have n2_ := Aside0.mk hbox; have m3_ := Aside0.mk (blk_below (g := gb3) (o := .cells #[.slice A0 l0.length c0] 29 (0, 0)) u6_1 hb); have N3_5 := (show gb3 ≠ gb5 by rw [hg]; exact Nat.ne_of_lt (blk_lt (g := gb3) (o := .cells #[.slice A0 l0.length c0] 29 (0, 0)) u6_1)); have N5_3 := (N3_5).symm; clear HB; have HB := n0_; have G5 := n1_; have BK5 := n2_; clear n0_ n1_ n2_; clear BK3; have BK3 := m3_; clear m3_; clear hbox hg hb; (try clear c3_ f3_); have c3_ : w5.cell? ⟨gb3, 0, none⟩ = some (.slice A0 l0.length c0) := (blk_cell BK3.out 0).trans rfl; have f3_ := blk_frozen BK3.out 0; (try clear c5_ f5_); have c5_ : w5.cell? ⟨gb5, 0, none⟩ = some (.int .u64 a2) := (blk_cell BK5.out 0).trans rfl; have f5_ := blk_frozen BK5.out 0) | ((with_reducible refine gate_dst (N := 6) rfl ?_); refine box_event ?hg (N := 6) ?hd (cs := #[.slice none 0 0]) (t := 29) ?hr ?_; (case hd => rfl); (case hg => rfl); (case hr => first | (go_simp; done) | (go_simp; rfl)); intro gb6 hg w6 hbox hb; have n0_ := Aside0.mk (below_step u6_0 hb); have n1_ := Aside0.mk (show w.heap.size ≤ gb6 by rw [hg]; exact (below_size u6_0)); have n2_ := Aside0.mk hbox; have m3_ := Aside0.mk (blk_below (g := gb3) (o := .cells #[.slice A0 l0.length c0] 29 (0, 0)) u6_1 hb); have N3_6 := (show gb3 ≠ gb6 by rw [hg]; exact Nat.ne_of_lt (blk_lt (g := gb3) (o := .cells #[.slice A0 l0.length c0] 29 (0, 0)) u6_1)); have N6_3 := (N3_6).symm; have m5_ := Aside0.mk (blk_below (g := gb5) (o := .cells #[.int .u64 a2] 33 (0, 0)) u6_5 hb); have N5_6 := (show gb5 ≠ gb6 by rw [hg]; exact Nat.ne_of_lt (blk_lt (g := gb5) (o := .cells #[.int .u64 a2] 33 (0, 0)) u6_5)); have N6_5 := (N5_6).symm; clear HB; have HB := n0_; have G6 := n1_; have BK6 := n2_; clear n0_ n1_ n2_; clear BK3; have BK3 := m3_; clear m3_; clear BK5; have BK5 := m5_; clear m5_; clear hbox hg hb; (try clear c3_ f3_); have c3_ : w6.cell? ⟨gb3, 0, none⟩ = some (.slice A0 l0.length c0) := (blk_cell BK3.out 0).trans rfl; have f3_ := blk_frozen BK3.out 0; (try clear c5_ f5_); have c5_ : w6.cell? ⟨gb5, 0, none⟩ = some (.int .u64 a2) := (blk_cell BK5.out 0).trans rfl; have f5_ := blk_frozen BK5.out 0; (try clear c6_ f6_); have c6_ : w6.cell? ⟨gb6, 0, none⟩ = some (.slice none 0 0) := (blk_cell BK6.out 0).trans rfl; have f6_ := blk_frozen BK6.out 0) | ((with_reducible refine gate_callee (f := 60) rfl ?_); refine goesL_ (some 11) rfl rfl Try.func60 (by kernel_rfl) rfl #[.agg #[.slice A0 l0.length c0], .int .u64 a1, .func (.func 65) #[] #[.pointer (some ⟨gb5, 0, none⟩)]] rfl u6_6 ?_; (with_reducible refine (impl_Withdraw.change k _ _ l0 a1 a2 gb5 _ _ _ ?side1 ?side2 c5_ HF.out).mono ?_); (case side1 => exact Kd.C_below HR.out HB.out); (case side2 => exact HC.out); rintro e w20 ⟨v20, rfl, ho0, hb⟩; refine ⟨_, rfl, ?_⟩; have HO := Aside0.mk (Kd.R_lower ho0 HB.out.size); obtain ⟨A1, c1, ev1⟩ := Kd.R_slice HO.out; subst ev1; have n1_ := Aside0.mk (below_step HB.out hb); have m_ := Aside0.mk (blk_below (g := gb6) (o := .cells #[.slice none 0 0] 29 (0, 0)) BK6.out hb); clear HB BK6; have HB := n1_; have BK6 := m_; clear n1_ m_; clear hb ho0; (try clear c6_ f6_); have c6_ : w20.cell? ⟨gb6, 0, none⟩ = some (.slice none 0 0) := (blk_cell BK6.out 0).trans rfl; have f6_ := blk_frozen BK6.out 0))
  refine bodyPost_ret (results_ct rfl _ _ gb6 29 #[.slice A1 r1.length c1] (0, 0) _ rfl (blk_put (cs := #[.slice none 0 0]) BK6.out 0 _ rfl) Try.underlying29 rfl (by kernel_rfl)) rfl ?_
  exact ⟨_, rfl, Kd.R_mono (Kd.R_far (p := ⟨gb6, 0, none⟩) (Kd.R_types HO.out BK6.out (by decide)) (fun _ hk => hk.2) _) (fun _ _ => trivial), below_set HB.out G6.out⟩


/-! ### impl_LockCredit: function 39 -/
/-- What the literal makes of an account, and its code. -/
def impl_LockCredit.g (a2 a3 : Int) (x : S53) : S53 × Int := if ¬ x.f4 = 0 then (x, 6) else if IntKind.u64.wrap (x.f1 + a2) < x.f1 then (x, 5) else (⟨x.f0, x.f1, x.f2, a2, a3⟩, 0)
set_option maxHeartbeats 1600000 in
theorem impl_LockCredit.lit (g n cap i : Nat) (l0 : List S53) (ok : Nat → Prop) (a2 a3 : Int) (b2 b3 : Nat) (w0 w : World) (hB : Below w0.heap.size w0 w) (ho : Kd.R k53 53 w w0.heap.size ok (.slice (some ⟨g, 0, none⟩) n cap) l0) (hi : i < l0.length) (p2 : w.cell? ⟨b2, 0, none⟩ = some (.int .u64 a2)) (q2 : b2 ≠ g) (p3 : w.cell? ⟨b3, 0, none⟩ = some (.int .i64 a3)) (q3 : b3 ≠ g) :
    Calls Try.prog 66 #[.pointer (some ⟨g, i * 5, none⟩), .pointer (some ⟨b2, 0, none⟩), .pointer (some ⟨b3, 0, none⟩)] w fun e w' => e = .returned (.int .i64 (impl_LockCredit.g a2 a3 (l0.getD i z53)).2) ∧ Kd.R k53 53 w' w0.heap.size ok (.slice (some ⟨g, 0, none⟩) n cap) (l0.set i (impl_LockCredit.g a2 a3 (l0.getD i z53)).1) ∧ Below w0.heap.size w0 w' ∧ Kept w w' (fun k => k = g) := by
  obtain ⟨_, hg, _, _, _, cur, hb, hs, _⟩ := impl_change.flat.blockG ho
  obtain ⟨x, hx⟩ : ∃ x, x = l0.getD i z53 := ⟨_, rfl⟩
  have he : ∀ j, j < 5 → cur[i * 5 + j]? = (impl_change.enc x)[j]? := fun j hj => by rw [hx]; exact Go.Proofs.Ytdbfjakhkclggaa.Slc.flat_elem impl_change.flat ho hb hi z53 j hj
  have hlt : ∀ j, j < 5 → i * 5 + j < cur.size := fun j hj => by
    have := he j hj
    rcases Nat.lt_or_ge (i * 5 + j) cur.size with h | h
    · exact h
    · rw [Array.getElem?_eq_none h, List.getElem?_eq_getElem hj] at this
      cases this
  have x0 : w.cell? ⟨g, i * 5, none⟩ = some (.int .u64 x.f0) := (blk_cell hb _).trans (he 0 (by omega))
  have x1 : w.cell? ⟨g, i * 5 + 1, none⟩ = some (.int .u64 x.f1) := (blk_cell hb _).trans (he 1 (by omega))
  have x2 : w.cell? ⟨g, i * 5 + 2, none⟩ = some (.int .u64 x.f2) := (blk_cell hb _).trans (he 2 (by omega))
  have x3 : w.cell? ⟨g, i * 5 + 3, none⟩ = some (.int .u64 x.f3) := (blk_cell hb _).trans (he 3 (by omega))
  have x4 : w.cell? ⟨g, i * 5 + 4, none⟩ = some (.int .i64 x.f4) := (blk_cell hb _).trans (he 4 (by omega))
  have f0 : w.frozen? ⟨g, i * 5, none⟩ = false := blk_frozen hb _
  have f1 : w.frozen? ⟨g, i * 5 + 1, none⟩ = false := blk_frozen hb _
  have f2 : w.frozen? ⟨g, i * 5 + 2, none⟩ = false := blk_frozen hb _
  have f3 : w.frozen? ⟨g, i * 5 + 3, none⟩ = false := blk_frozen hb _
  have f4 : w.frozen? ⟨g, i * 5 + 4, none⟩ = false := blk_frozen hb _
  rw [← hx]
  -- the row as it was, and as it is when cells of the element are written
  have same : ∀ W : World, (∀ k, W.heap[k]? = w.heap[k]?) → Kd.R k53 53 W w0.heap.size ok (.slice (some ⟨g, 0, none⟩) n cap) (l0.set i x) := fun W hW => by
    refine Go.Proofs.Ytdbfjakhkclggaa.Slc.flat_upd impl_change.flat ho hi hb ((hW g).trans hb) rfl (fun j hj => he j hj) (fun q _ => rfl)
  have HS := Aside0.mk same
  have HBl := Aside0.mk hB
  have HG := Aside0.mk hg
  have HO := Aside0.mk ho
  have Hb := Aside0.mk hb
  have HE := Aside0.mk he
  have HI := Aside0.mk hi
  have HL := Aside0.mk hlt
  clear same hB hg ho hb he hi hlt hs hx
  have hu := Try.underlying53
  by_cases h4 : ¬ x.f4 = 0
  · have ch4 := show (x.f4 != 0) = true by simpa using h4
    go_enter Try.func66, Try.ntmps66
    go_wp2
    repeat (go_region; try go_wp2)
    go_ret
    rw [show impl_LockCredit.g a2 a3 x = (x, 6) by simp [impl_LockCredit.g, h4]]
    exact ⟨rfl, HS.out _ (fun _ => rfl), u6_14, u6_13⟩
  have ch4 := show (x.f4 != 0) = false by simpa using h4
  by_cases h5 : IntKind.u64.wrap (x.f1 + a2) < x.f1
  · have ch5 := decide_eq_true h5
    go_enter Try.func66, Try.ntmps66
    go_wp2
    repeat (go_region; try go_wp2)
    go_ret
    rw [show impl_LockCredit.g a2 a3 x = (x, 5) by simp [impl_LockCredit.g, h4, h5]]
    exact ⟨rfl, HS.out _ (fun _ => rfl), u6_14, u6_13⟩
  have ch5 := decide_eq_false h5
  go_enter Try.func66, Try.ntmps66
  go_wp2
  repeat (go_region; try go_wp2)
  go_ret
  rw [show impl_LockCredit.g a2 a3 x = (⟨x.f0, x.f1, x.f2, a2, a3⟩, 0) by simp [impl_LockCredit.g, h4, h5]]
  obtain ⟨W, hW⟩ : ∃ W, W = ((w.setCell ⟨g, i * 5 + 3, none⟩ (.int .u64 (a2))).setCell ⟨g, i * 5 + 4, none⟩ (.int .i64 (a3))) := ⟨_, rfl⟩
  have hbW : W.heap[g]? = some (.cells ((cur.setIfInBounds (i * 5 + 3) (.int .u64 (a2))).setIfInBounds (i * 5 + 4) (.int .i64 (a3))) 53 (0, 0)) := by rw [hW]; exact (blk_set (blk_set (w := w) Hb.out (i * 5 + 3) (.int .u64 (a2))) (i * 5 + 4) (.int .i64 (a3)))
  have hBW : Below w0.heap.size w0 W := by rw [hW]; exact (below_set (below_set HBl.out HG.out) HG.out)
  have hKW : Kept w W (fun k => k = g) := by rw [hW]; exact (Kept.setCell (S := fun k => k = g) ((Kept.setCell (S := fun k => k = g) (Kept.refl _ _) (p := ⟨g, i * 5 + 3, none⟩) (.inl rfl) (.int .u64 (a2)))) (p := ⟨g, i * 5 + 4, none⟩) (.inl rfl) (.int .i64 (a3)))
  rw [← hW]
  clear hW
  refine ⟨rfl, Go.Proofs.Ytdbfjakhkclggaa.Slc.flat_upd impl_change.flat HO.out HI.out Hb.out (cur' := ((cur.setIfInBounds (i * 5 + 3) (.int .u64 (a2))).setIfInBounds (i * 5 + 4) (.int .i64 (a3)))) u6_12 (by simp) (fun j hj => ?_) (fun q hq => ?_), by repeat (first | exact hBW | apply below_drew), by repeat (first | exact hKW | apply Kept.drew)⟩
  · have hj : j < 5 := hj
    have e := HE.out j hj
    have hl := HL.out j hj
    show ((cur.setIfInBounds (i * 5 + 3) (.int .u64 (a2))).setIfInBounds (i * 5 + 4) (.int .i64 (a3)))[i * 5 + j]? = _
    rcases (show j = 0 ∨ j = 1 ∨ j = 2 ∨ j = 3 ∨ j = 4 by omega) with rfl | rfl | rfl | rfl | rfl
    · rw [Array.getElem?_setIfInBounds, if_neg (by omega), Array.getElem?_setIfInBounds, if_neg (by omega)]; exact e
    · rw [Array.getElem?_setIfInBounds, if_neg (by omega), Array.getElem?_setIfInBounds, if_neg (by omega)]; exact e
    · rw [Array.getElem?_setIfInBounds, if_neg (by omega), Array.getElem?_setIfInBounds, if_neg (by omega)]; exact e
    · rw [Array.getElem?_setIfInBounds, if_neg (by omega), Array.getElem?_setIfInBounds, if_pos rfl, if_pos (by simpa using hl)]; first | done | rfl
    rw [Array.getElem?_setIfInBounds, if_pos rfl, if_pos (by simpa using hl)]; first | done | rfl
  have hq : q < i * 5 ∨ i * 5 + 5 ≤ q := hq
  rw [Array.getElem?_setIfInBounds, if_neg (by omega), Array.getElem?_setIfInBounds, if_neg (by omega)]

def impl_LockCredit.cf (k : Nat) (l0 : List S53) (a1 a2 a3 : Int) : Option (List S53 × Int) := impl_change.cf (impl_LockCredit.g a2 a3) k l0 a1
theorem impl_LockCredit.cf_mono (l0 : List S53) (a1 a2 a3 : Int) (k : Nat) : LeO (impl_LockCredit.cf k l0 a1 a2 a3) (impl_LockCredit.cf (k + 1) l0 a1 a2 a3) := impl_change.cf_mono _ l0 a1 k
theorem impl_LockCredit.change (k : Nat) (A0 : Option Addr) (c0 : Nat) (l0 : List S53) (a1 a2 a3 : Int) (b2 b3 : Nat) (r1 : List S53) (r2 : Int) (w : World) (hr0 : Kd.C k53 w A0 l0.length l0) (hc0 : l0.length ≤ c0) (p2 : w.cell? ⟨b2, 0, none⟩ = some (.int .u64 a2)) (p3 : w.cell? ⟨b3, 0, none⟩ = some (.int .i64 a3)) (h : impl_LockCredit.cf k l0 a1 a2 a3 = some (r1, r2)) :
    Calls Try.prog 60 #[.agg #[.slice A0 l0.length c0], .int .u64 a1, .func (.func 66) #[] #[.pointer (some ⟨b2, 0, none⟩), .pointer (some ⟨b3, 0, none⟩)]] w fun e w' => ∃ v0_ : Value, e = .returned (.tuple #[.agg #[v0_], .int .i64 r2]) ∧ Kd.R k53 53 w' w.heap.size (fun _ => True) v0_ r1 ∧ Below w.heap.size w w' :=
  impl_change.gen 66 #[.pointer (some ⟨b2, 0, none⟩), .pointer (some ⟨b3, 0, none⟩)] (impl_LockCredit.g a2 a3) k A0 c0 l0 a1 r1 r2 w hr0 hc0 (fun i g1 c1 W hi hg hB ho => impl_LockCredit.lit g1 l0.length c1 i l0 (fun k => k = g1) a2 a3 b2 b3 w W hB ho hi ((hB.cell (World.block_lt_of_cell? w _ p2)).trans p2) (Nat.ne_of_lt (Nat.lt_of_lt_of_le (World.block_lt_of_cell? w _ p2) hg)) ((hB.cell (World.block_lt_of_cell? w _ p3)).trans p3) (Nat.ne_of_lt (Nat.lt_of_lt_of_le (World.block_lt_of_cell? w _ p3) hg))) Try.call66 h
def impl_LockCredit.f (k : Nat) (l0 : List S53) (a1 : Int) (a2 : Int) (a3 : Int) : Option (List S53 × Int) := if a3 < 1 then (impl_copyBook.f l0).bind fun y => some (y, 1) else impl_LockCredit.cf k l0 a1 a2 a3
theorem impl_LockCredit.mono : ∀ (l0 : List S53) (a1 : Int) (a2 : Int) (a3 : Int) (k : Nat), LeO (impl_LockCredit.f k l0 a1 a2 a3) (impl_LockCredit.f (k + 1) l0 a1 a2 a3) := fun l0 a1 a2 a3 k => by
  unfold impl_LockCredit.f
  exact LeO.ite (LeO.refl _) (impl_LockCredit.cf_mono _ _ _ _ k)
set_option maxHeartbeats 4000000 in
set_option maxRecDepth 100000 in
theorem impl_LockCredit.calls (k : Nat) (A0 : Option Addr) (c0 : Nat) (l0 : List S53) (a1 : Int) (a2 : Int) (a3 : Int) (r1 : List S53) (r2 : Int) (w : World) (hr0 : Kd.C k53 w A0 l0.length l0) (hc0 : l0.length ≤ c0) (h : impl_LockCredit.f k l0 a1 a2 a3 = some (r1, r2)) :
    Calls Try.prog 39 #[.agg #[.slice A0 l0.length c0], .int .u64 a1, .int .u64 a2, .int .i64 a3] w fun e w' => ∃ v0_ : Value, e = .returned (.tuple #[.agg #[v0_], .int .i64 r2]) ∧ Kd.R k53 53 w' w.heap.size (fun _ => True) v0_ r1 ∧ Below w.heap.size w w' := by
  have hu := Try.underlying29
  have HR := Aside0.mk hr0
  have HC := Aside0.mk hc0
  have HB := Aside0.mk (Below.refl w.heap.size w)
  clear hr0 hc0
  unfold impl_LockCredit.f at h
  by_cases hg : a3 < 1
  rotate_left
  · rw [if_neg hg] at h
    have HF := Aside0.mk h
    clear h
    have cg := decide_eq_false hg
    go_enter Try.func39, Try.ntmps39
    go_wp2_with (first | ((with_reducible refine gate_dst (N := 4) rfl ?_); refine box_event ?hg (N := 4) ?hd (cs := #[.slice A0 l0.length c0]) (t := 29) ?hr ?_; (case hd => rfl); (case hg => rfl); (case hr => first | (go_simp; done) | (go_simp; rfl)); intro gb4 hg w4 hbox hb; have n0_ := Aside0.mk (below_step u6_0 hb); have n1_ := Aside0.mk (show w.heap.size ≤ gb4 by rw [hg]; exact (below_size u6_0)); have n2_ := Aside0.mk hbox; clear HB; have HB := n0_; have G4 := n1_; have BK4 := n2_; clear n0_ n1_ n2_; clear hbox hg hb; (try clear c4_ f4_); have c4_ : w4.cell? ⟨gb4, 0, none⟩ = some (.slice A0 l0.length c0) := (blk_cell BK4.out 0).trans rfl; have f4_ := blk_frozen BK4.out 0) | ((with_reducible refine gate_dst (N := 6) rfl ?_); refine box_event ?hg (N := 6) ?hd (cs := #[.int .u64 a2]) (t := 33) ?hr ?_; (case hd => rfl); (case hg => rfl); (case hr => first | (go_simp; done) | (go_simp; rfl)); intro gb6 hg w6 hbox hb; have n0_ := Aside0.mk (below_step u6_0 hb); have n1_ := Aside0.mk (show w.heap.size ≤ gb6 by rw [hg]; exact (below_size u6_0)); have n2_ := Aside0.mk hbox; have m4_ := Aside0.mk (blk_below (g := gb4) (o := .cells #[.slice A0 l0.length c0] 29 (0, 0)) u6_2 hb); have N4_6 := (show gb4 ≠ gb6 by rw [hg]; exact Nat.ne_of_lt (blk_lt (g := gb4) (o := .cells #[.slice A0 l0.length c0] 29 (0, 0)) u6_2)); have N6_4 := (N4_6).symm; clear HB; have HB := n0_; have G6 := n1_; have BK6 := n2_; clear n0_ n1_ n2_; clear BK4; have BK4 := m4_; clear m4_; clear hbox hg hb; (try clear c4_ f4_); have c4_ : w6.cell? ⟨gb4, 0, none⟩ = some (.slice A0 l0.length c0) := (blk_cell BK4.out 0).trans rfl; have f4_ := blk_frozen BK4.out 0; (try clear c6_ f6_); have c6_ : w6.cell? ⟨gb6, 0, none⟩ = some (.int .u64 a2) := (blk_cell BK6.out 0).trans rfl; have f6_ := blk_frozen BK6.out 0) | ((with_reducible refine gate_dst (N := 7) rfl ?_); refine box_event ?hg (N := 7) ?hd (cs := #[.int .i64 a3]) (t := 3) ?hr ?_; (case hd => rfl); (case hg => rfl); (case hr => first | (go_simp; done) | (go_simp; rfl)); intro gb7 hg w7 hbox hb; have n0_ := Aside0.mk (below_step u6_0 hb); have n1_ := Aside0.mk (show w.heap.size ≤ gb7 by rw [hg]; exact (below_size u6_0)); have n2_ := Aside0.mk hbox; have m4_ := Aside0.mk (blk_below (g := gb4) (o := .cells #[.slice A0 l0.length c0] 29 (0, 0)) u6_2 hb); have N4_7 := (show gb4 ≠ gb7 by rw [hg]; exact Nat.ne_of_lt (blk_lt (g := gb4) (o := .cells #[.slice A0 l0.length c0] 29 (0, 0)) u6_2)); have N7_4 := (N4_7).symm; have m6_ := Aside0.mk (blk_below (g := gb6) (o := .cells #[.int .u64 a2] 33 (0, 0)) u6_4 hb); have N6_7 := (show gb6 ≠ gb7 by rw [hg]; exact Nat.ne_of_lt (blk_lt (g := gb6) (o := .cells #[.int .u64 a2] 33 (0, 0)) u6_4)); have N7_6 := (N6_7).symm; clear HB; have HB := n0_; have G7 := n1_; have BK7 := n2_; clear n0_ n1_ n2_; clear BK4; have BK4 := m4_; clear m4_; clear BK6; have BK6 := m6_; clear m6_; clear hbox hg hb; (try clear c4_ f4_); have c4_ : w7.cell? ⟨gb4, 0, none⟩ = some (.slice A0 l0.length c0) := (blk_cell BK4.out 0).trans rfl; have f4_ := blk_frozen BK4.out 0; (try clear c6_ f6_); have c6_ : w7.cell? ⟨gb6, 0, none⟩ = some (.int .u64 a2) := (blk_cell BK6.out 0).trans rfl; have f6_ := blk_frozen BK6.out 0; (try clear c7_ f7_); have c7_ : w7.cell? ⟨gb7, 0, none⟩ = some (.int .i64 a3) := (blk_cell BK7.out 0).trans rfl; have f7_ := blk_frozen BK7.out 0) | ((with_reducible refine gate_dst (N := 8) rfl ?_); refine box_event ?hg (N := 8) ?hd (cs := #[.slice none 0 0]) (t := 29) ?hr ?_; (case hd => rfl); (case hg => rfl); (case hr => first | (go_simp; done) | (go_simp; rfl)); intro gb8 hg w8 hbox hb; have n0_ := Aside0.mk (below_step u6_0 hb); have n1_ := Aside0.mk (show w.heap.size ≤ gb8 by rw [hg]; exact (below_size u6_0)); have n2_ := Aside0.mk hbox; have m4_ := Aside0.mk (blk_below (g := gb4) (o := .cells #[.slice A0 l0.length c0] 29 (0, 0)) u6_2 hb); have N4_8 := (show gb4 ≠ gb8 by rw [hg]; exact Nat.ne_of_lt (blk_lt (g := gb4) (o := .cells #[.slice A0 l0.length c0] 29 (0, 0)) u6_2)); have N8_4 := (N4_8).symm; have m6_ := Aside0.mk (blk_below (g := gb6) (o := .cells #[.int .u64 a2] 33 (0, 0)) u6_4 hb); have N6_8 := (show gb6 ≠ gb8 by rw [hg]; exact Nat.ne_of_lt (blk_lt (g := gb6) (o := .cells #[.int .u64 a2] 33 (0, 0)) u6_4)); have N8_6 := (N6_8).symm; have m7_ := Aside0.mk (blk_below (g := gb7) (o := .cells #[.int .i64 a3] 3 (0, 0)) u6_10 hb); have N7_8 := (show gb7 ≠ gb8 by rw [hg]; exact Nat.ne_of_lt (blk_lt (g := gb7) (o := .cells #[.int .i64 a3] 3 (0, 0)) u6_10)); have N8_7 := (N7_8).symm; clear HB; have HB := n0_; have G8 := n1_; have BK8 := n2_; clear n0_ n1_ n2_; clear BK4; have BK4 := m4_; clear m4_; clear BK6; have BK6 := m6_; clear m6_; clear BK7; have BK7 := m7_; clear m7_; clear hbox hg hb; (try clear c4_ f4_); have c4_ : w8.cell? ⟨gb4, 0, none⟩ = some (.slice A0 l0.length c0) := (blk_cell BK4.out 0).trans rfl; have f4_ := blk_frozen BK4.out 0; (try clear c6_ f6_); have c6_ : w8.cell? ⟨gb6, 0, none⟩ = some (.int .u64 a2) := (blk_cell BK6.out 0).trans rfl; have f6_ := blk_frozen BK6.out 0; (try clear c7_ f7_); have c7_ : w8.cell? ⟨gb7, 0, none⟩ = some (.int .i64 a3) := (blk_cell BK7.out 0).trans rfl; have f7_ := blk_frozen BK7.out 0; (try clear c8_ f8_); have c8_ : w8.cell? ⟨gb8, 0, none⟩ = some (.slice none 0 0) := (blk_cell BK8.out 0).trans rfl; have f8_ := blk_frozen BK8.out 0) | ((with_reducible refine gate_callee (f := 60) rfl ?_); refine goesL_ (some 17) rfl rfl Try.func60 (by kernel_rfl) rfl #[.agg #[.slice A0 l0.length c0], .int .u64 a1, .func (.func 66) #[] #[.pointer (some ⟨gb6, 0, none⟩), .pointer (some ⟨gb7, 0, none⟩)]] rfl u6_6 ?_; (with_reducible refine (impl_LockCredit.change k _ _ l0 a1 a2 a3 gb6 gb7 _ _ _ ?side1 ?side2 c6_ c7_ HF.out).mono ?_); (case side1 => exact Kd.C_below HR.out HB.out); (case side2 => exact HC.out); rintro e w20 ⟨v20, rfl, ho0, hb⟩; refine ⟨_, rfl, ?_⟩; have HO := Aside0.mk (Kd.R_lower ho0 HB.out.size); obtain ⟨A1, c1, ev1⟩ := Kd.R_slice HO.out; subst ev1; have n1_ := Aside0.mk (below_step HB.out hb); have m_ := Aside0.mk (blk_below (g := gb8) (o := .cells #[.slice none 0 0] 29 (0, 0)) BK8.out hb); clear HB BK8; have HB := n1_; have BK8 := m_; clear n1_ m_; clear hb ho0; (try clear c8_ f8_); have c8_ : w20.cell? ⟨gb8, 0, none⟩ = some (.slice none 0 0) := (blk_cell BK8.out 0).trans rfl; have f8_ := blk_frozen BK8.out 0))
    refine bodyPost_ret (results_ct rfl _ _ gb8 29 #[.slice A1 r1.length c1] (0, 0) _ rfl (blk_put (cs := #[.slice none 0 0]) BK8.out 0 _ rfl) Try.underlying29 rfl (by kernel_rfl)) rfl ?_
    exact ⟨_, rfl, Kd.R_mono (Kd.R_far (p := ⟨gb8, 0, none⟩) (Kd.R_types HO.out BK8.out (by decide)) (fun _ hk => hk.2) _) (fun _ _ => trivial), below_set HB.out G8.out⟩
  rw [if_pos hg] at h
  obtain ⟨y, hy, h⟩ := Option.bind_eq_some_iff.1 h
  obtain ⟨rfl, rfl⟩ : y = r1 ∧ 1 = r2 := by injection h with h; injection h with h1 h2; exact ⟨h1, h2⟩
  have HF := Aside0.mk hy
  clear h hy
  have cg := decide_eq_true hg
  go_enter Try.func39, Try.ntmps39
  go_wp2_with (first | ((with_reducible refine gate_dst (N := 4) rfl ?_); refine box_event ?hg (N := 4) ?hd (cs := #[.slice A0 l0.length c0]) (t := 29) ?hr ?_; (case hd => rfl); (case hg => rfl); (case hr => first | (go_simp; done) | (go_simp; rfl)); intro gb4 hg w4 hbox hb; have n0_ := Aside0.mk (below_step u6_0 hb); have n1_ := Aside0.mk (show w.heap.size ≤ gb4 by rw [hg]; exact (below_size u6_0)); have n2_ := Aside0.mk hbox; clear HB; have HB := n0_; have G4 := n1_; have BK4 := n2_; clear n0_ n1_ n2_; clear hbox hg hb; (try clear c4_ f4_); have c4_ : w4.cell? ⟨gb4, 0, none⟩ = some (.slice A0 l0.length c0) := (blk_cell BK4.out 0).trans rfl; have f4_ := blk_frozen BK4.out 0) | ((with_reducible refine gate_dst (N := 6) rfl ?_); refine box_event ?hg (N := 6) ?hd (cs := #[.int .u64 a2]) (t := 33) ?hr ?_; (case hd => rfl); (case hg => rfl); (case hr => first | (go_simp; done) | (go_simp; rfl)); intro gb6 hg w6 hbox hb; have n0_ := Aside0.mk (below_step u6_0 hb); have n1_ := Aside0.mk (show w.heap.size ≤ gb6 by rw [hg]; exact (below_size u6_0)); have n2_ := Aside0.mk hbox; have m4_ := Aside0.mk (blk_below (g := gb4) (o := .cells #[.slice A0 l0.length c0] 29 (0, 0)) u6_2 hb); have N4_6 := (show gb4 ≠ gb6 by rw [hg]; exact Nat.ne_of_lt (blk_lt (g := gb4) (o := .cells #[.slice A0 l0.length c0] 29 (0, 0)) u6_2)); have N6_4 := (N4_6).symm; clear HB; have HB := n0_; have G6 := n1_; have BK6 := n2_; clear n0_ n1_ n2_; clear BK4; have BK4 := m4_; clear m4_; clear hbox hg hb; (try clear c4_ f4_); have c4_ : w6.cell? ⟨gb4, 0, none⟩ = some (.slice A0 l0.length c0) := (blk_cell BK4.out 0).trans rfl; have f4_ := blk_frozen BK4.out 0; (try clear c6_ f6_); have c6_ : w6.cell? ⟨gb6, 0, none⟩ = some (.int .u64 a2) := (blk_cell BK6.out 0).trans rfl; have f6_ := blk_frozen BK6.out 0) | ((with_reducible refine gate_dst (N := 7) rfl ?_); refine box_event ?hg (N := 7) ?hd (cs := #[.int .i64 a3]) (t := 3) ?hr ?_; (case hd => rfl); (case hg => rfl); (case hr => first | (go_simp; done) | (go_simp; rfl)); intro gb7 hg w7 hbox hb; have n0_ := Aside0.mk (below_step u6_0 hb); have n1_ := Aside0.mk (show w.heap.size ≤ gb7 by rw [hg]; exact (below_size u6_0)); have n2_ := Aside0.mk hbox; have m4_ := Aside0.mk (blk_below (g := gb4) (o := .cells #[.slice A0 l0.length c0] 29 (0, 0)) u6_2 hb); have N4_7 := (show gb4 ≠ gb7 by rw [hg]; exact Nat.ne_of_lt (blk_lt (g := gb4) (o := .cells #[.slice A0 l0.length c0] 29 (0, 0)) u6_2)); have N7_4 := (N4_7).symm; have m6_ := Aside0.mk (blk_below (g := gb6) (o := .cells #[.int .u64 a2] 33 (0, 0)) u6_4 hb); have N6_7 := (show gb6 ≠ gb7 by rw [hg]; exact Nat.ne_of_lt (blk_lt (g := gb6) (o := .cells #[.int .u64 a2] 33 (0, 0)) u6_4)); have N7_6 := (N6_7).symm; clear HB; have HB := n0_; have G7 := n1_; have BK7 := n2_; clear n0_ n1_ n2_; clear BK4; have BK4 := m4_; clear m4_; clear BK6; have BK6 := m6_; clear m6_; clear hbox hg hb; (try clear c4_ f4_); have c4_ : w7.cell? ⟨gb4, 0, none⟩ = some (.slice A0 l0.length c0) := (blk_cell BK4.out 0).trans rfl; have f4_ := blk_frozen BK4.out 0; (try clear c6_ f6_); have c6_ : w7.cell? ⟨gb6, 0, none⟩ = some (.int .u64 a2) := (blk_cell BK6.out 0).trans rfl; have f6_ := blk_frozen BK6.out 0; (try clear c7_ f7_); have c7_ : w7.cell? ⟨gb7, 0, none⟩ = some (.int .i64 a3) := (blk_cell BK7.out 0).trans rfl; have f7_ := blk_frozen BK7.out 0) | ((with_reducible refine gate_dst (N := 8) rfl ?_); refine box_event ?hg (N := 8) ?hd (cs := #[.slice none 0 0]) (t := 29) ?hr ?_; (case hd => rfl); (case hg => rfl); (case hr => first | (go_simp; done) | (go_simp; rfl)); intro gb8 hg w8 hbox hb; have n0_ := Aside0.mk (below_step u6_0 hb); have n1_ := Aside0.mk (show w.heap.size ≤ gb8 by rw [hg]; exact (below_size u6_0)); have n2_ := Aside0.mk hbox; have m4_ := Aside0.mk (blk_below (g := gb4) (o := .cells #[.slice A0 l0.length c0] 29 (0, 0)) u6_2 hb); have N4_8 := (show gb4 ≠ gb8 by rw [hg]; exact Nat.ne_of_lt (blk_lt (g := gb4) (o := .cells #[.slice A0 l0.length c0] 29 (0, 0)) u6_2)); have N8_4 := (N4_8).symm; have m6_ := Aside0.mk (blk_below (g := gb6) (o := .cells #[.int .u64 a2] 33 (0, 0)) u6_4 hb); have N6_8 := (show gb6 ≠ gb8 by rw [hg]; exact Nat.ne_of_lt (blk_lt (g := gb6) (o := .cells #[.int .u64 a2] 33 (0, 0)) u6_4)); have N8_6 := (N6_8).symm; have m7_ := Aside0.mk (blk_below (g := gb7) (o := .cells #[.int .i64 a3] 3 (0, 0)) u6_10 hb); have N7_8 := (show gb7 ≠ gb8 by rw [hg]; exact Nat.ne_of_lt (blk_lt (g := gb7) (o := .cells #[.int .i64 a3] 3 (0, 0)) u6_10)); have N8_7 := (N7_8).symm; clear HB; have HB := n0_; have G8 := n1_; have BK8 := n2_; clear n0_ n1_ n2_; clear BK4; have BK4 := m4_; clear m4_; clear BK6; have BK6 := m6_; clear m6_; clear BK7; have BK7 := m7_; clear m7_; clear hbox hg hb; (try clear c4_ f4_); have c4_ : w8.cell? ⟨gb4, 0, none⟩ = some (.slice A0 l0.length c0) := (blk_cell BK4.out 0).trans rfl; have f4_ := blk_frozen BK4.out 0; (try clear c6_ f6_); have c6_ : w8.cell? ⟨gb6, 0, none⟩ = some (.int .u64 a2) := (blk_cell BK6.out 0).trans rfl; have f6_ := blk_frozen BK6.out 0; (try clear c7_ f7_); have c7_ : w8.cell? ⟨gb7, 0, none⟩ = some (.int .i64 a3) := (blk_cell BK7.out 0).trans rfl; have f7_ := blk_frozen BK7.out 0; (try clear c8_ f8_); have c8_ : w8.cell? ⟨gb8, 0, none⟩ = some (.slice none 0 0) := (blk_cell BK8.out 0).trans rfl; have f8_ := blk_frozen BK8.out 0) | ((with_reducible refine gate_callee (f := 56) rfl ?_); refine goesL_ (some 13) rfl rfl Try.func56 (by kernel_rfl) rfl #[.agg #[.slice A0 l0.length c0]] rfl u6_6 ?_; (with_reducible refine (impl_copyBook.calls _ _ l0 y _ ?side1 ?side2 HF.out).mono ?_); (case side1 => exact Kd.C_below HR.out HB.out); (case side2 => exact HC.out); rintro e w20 ⟨v20, rfl, ho0, hb⟩; refine ⟨_, rfl, ?_⟩; have HO := Aside0.mk (Kd.R_lower ho0 HB.out.size); obtain ⟨A1, c1, ev1⟩ := Kd.R_slice HO.out; subst ev1; have n1_ := Aside0.mk (below_step HB.out hb); have m_ := Aside0.mk (blk_below (g := gb8) (o := .cells #[.slice none 0 0] 29 (0, 0)) BK8.out hb); clear HB BK8; have HB := n1_; have BK8 := m_; clear n1_ m_; clear hb ho0; (try clear c8_ f8_); have c8_ : w20.cell? ⟨gb8, 0, none⟩ = some (.slice none 0 0) := (blk_cell BK8.out 0).trans rfl; have f8_ := blk_frozen BK8.out 0))
  refine bodyPost_ret (results_ct rfl _ _ gb8 29 #[.slice A1 y.length c1] (0, 0) _ rfl (blk_put (cs := #[.slice none 0 0]) BK8.out 0 _ rfl) Try.underlying29 rfl (by kernel_rfl)) rfl ?_
  exact ⟨_, rfl, Kd.R_mono (Kd.R_far (p := ⟨gb8, 0, none⟩) (Kd.R_types HO.out BK8.out (by decide)) (fun _ hk => hk.2) _) (fun _ _ => trivial), below_set HB.out G8.out⟩


end Go.Proofs.Ytdbfjakhkclggaa.QFnHolds
