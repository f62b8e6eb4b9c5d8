-- Printed by the session's own program wip/prx.py.
import Derived.Test.YtfabcjkaoidmeaaQFnRangesx0
import Derived.Test.YtfabcjkaoidmeaaQFnRangesx2
import Derived.Test.YtfabcjkaoidmeaaQFnRangesx3
import Derived.Test.YtfabcjkaoidmeaaQFnRangesx6
import Derived.Test.YtfabcjkaoidmeaaQFnRangesx9
namespace Go.Proofs.Ytfabcjkaoidmeaa.QFnRanges
open Go.RowKit Go.Proofs.YtfabcjkaoidmeaaW.PrintWords Go.Proofs.YtfabcjkaoidmeaaW.PrintLast Go.Proofs.YtfabcjkaoidmeaaW.PrintMore
attribute [local go_sem] max2_int min2_int max_two min_two max_three min_three max_four min_four Go.Proofs.Ytfabcjkaoidmeaa.Set.isSome_setCell   -- for this text's walks alone
set_option linter.unusedVariables false
set_option linter.unusedSimpArgs false

-- squeezed
theorem u10_0 {P : Prop} (h : P := by (with_reducible repeat (first | refine blk_drewN ?_ _ | refine blk_drew ?_ | refine blk_alloc ?_ _)); refine blk_put (cs := #[.int .u64 ((rd_T26 l0 x10_1).f0), .int .u64 ((rd_T26 l0 x10_1).f1), .int .i64 0]) ?_ 2 _ rfl; (with_reducible repeat (first | refine blk_drewN ?_ _ | refine blk_drew ?_ | refine blk_alloc ?_ _)); refine blk_put (cs := #[.int .u64 ((rd_T26 l0 x10_1).f0), .int .u64 0, .int .i64 0]) ?_ 1 _ rfl; (with_reducible repeat (first | refine blk_drewN ?_ _ | refine blk_drew ?_ | refine blk_alloc ?_ _)); refine blk_put (cs := #[.int .u64 0, .int .u64 0, .int .i64 0]) ?_ 0 _ rfl; (with_reducible repeat (first | refine blk_drewN ?_ _ | refine blk_drew ?_ | refine blk_alloc ?_ _)); exact BK255.out) : P := h
theorem u10_1 {P : Prop} (h : P := by repeat (first | (with_reducible first | exact HB.out | apply below_alloc | apply pw_below_drewN | apply below_drew1) | exact HB.out)) : P := h
theorem u10_2 {P : Prop} (h : P := by (with_reducible repeat (first | apply Kd.R_alloc | apply Kd.R_drewN | apply Kd.R_drew)); exact Kd.R_mono (Kd.R_far (p := ⟨gb255, 2, none⟩) (Kd.R_far (p := ⟨gb255, 1, none⟩) (Kd.R_far (p := ⟨gb255, 0, none⟩) (Kd.R_mono HO_3.out (fun k_ hk => (⟨hk, hk.2⟩ : _ ∧ k_ ≠ gb255))) (fun _ hk => hk.2) (.int .u64 ((rd_T26 l0 x10_1).f0))) (fun _ hk => hk.2) (.int .u64 ((rd_T26 l0 x10_1).f1))) (fun _ hk => hk.2) (.int .i64 ((rd_T26 l0 x10_1).f2))) (fun _ hk => hk.1.2)) : P := h
theorem u10_3 {P : Prop} (h : P := by repeat (first | (with_reducible first | exact HB.out | apply below_alloc | apply pw_below_drewN | apply below_drew1 | refine below_set ?_ GE255.out) | exact HB.out)) : P := h
theorem u10_4 {P : Prop} (h : P := by first | (with_reducible assumption) | assumption) : P := h
theorem u10_5 {P : Prop} (h : P := by repeat (first | (with_reducible first | exact HB.out | apply below_alloc | apply pw_below_drewN | apply below_drew1 | refine below_set ?_ GE281.out) | exact HB.out)) : P := h
theorem u10_6 {P : Prop} (h : P := by (try simp only [List.map_toArray, List.map_cons, List.map_nil]); first | done | rfl | (simp only [List.length_drop, List.length_take]; rfl)) : P := h
theorem u10_7 {P : Prop} (h : P := by repeat (first | exact (Kd.C_below HR0.out HB.out) | (with_reducible refine Kd.C_alloc ?_ _) | (with_reducible refine Kd.C_drewN ?_ _) | (with_reducible refine Kd.C_drew ?_))) : P := h
theorem u10_8 {P : Prop} (h : P := by (with_reducible repeat (first | refine blk_drewN ?_ _ | refine blk_drew ?_ | refine blk_alloc ?_ _)); refine blk_put (cs := #[.int .u64 ((rd_T26 l0 t279).f0), .int .u64 ((rd_T26 l0 t279).f1), .int .i64 0]) ?_ 2 _ rfl; (with_reducible repeat (first | refine blk_drewN ?_ _ | refine blk_drew ?_ | refine blk_alloc ?_ _)); refine blk_put (cs := #[.int .u64 ((rd_T26 l0 t279).f0), .int .u64 0, .int .i64 0]) ?_ 1 _ rfl; (with_reducible repeat (first | refine blk_drewN ?_ _ | refine blk_drew ?_ | refine blk_alloc ?_ _)); refine blk_put (cs := #[.int .u64 0, .int .u64 0, .int .i64 0]) ?_ 0 _ rfl; (with_reducible repeat (first | refine blk_drewN ?_ _ | refine blk_drew ?_ | refine blk_alloc ?_ _)); exact BK281.out) : P := h
theorem u10_9 {P : Prop} (h : P := by (with_reducible repeat (first | apply Kd.R_alloc | apply Kd.R_drewN | apply Kd.R_drew)); exact HO_3.out) : P := h
theorem u10_10 {P : Prop} (h : P := by (with_reducible repeat (first | refine blk_drewN ?_ _ | refine blk_drew ?_ | refine blk_alloc ?_ _)); exact BK281.out) : P := h
theorem u10_11 {P : Prop} (h : P := by repeat (first | exact HR0.out | (with_reducible refine Kd.C_alloc ?_ _) | (with_reducible refine Kd.C_drewN ?_ _) | (with_reducible refine Kd.C_drew ?_))) : P := h
theorem u10_12 {P : Prop} (h : P := by first | exact Kd.own_blk (Kd.R_ne HO_3.out BK255.out (by decide)) | (have hz_ := HO_3.out.1 _ rfl; first | exact hz_ | exact hz_.2 | exact hz_.2.2 | exact hz_.2.1 | exact hz_.1 | exact hz_.1.2)) : P := h
theorem u10_13 {P : Prop} (h : P := by repeat (first | exact (Kd.C_below HR1.out HB.out) | (with_reducible refine Kd.C_alloc ?_ _) | (with_reducible refine Kd.C_drewN ?_ _) | (with_reducible refine Kd.C_drew ?_))) : P := h
theorem u10_14 {P : Prop} (h : P := by first | exact Kd.R_nil _ _ _ _ _ | exact Kd.N_nil _ _ _ _ _ | exact Kd.V_nil _ _ _ _ _ | exact Kd.Q_nil _ _ _ _ _ | exact Kd.S_nil _ _ _ _ _) : P := h
theorem u10_15 {P : Prop} (h : P := by first | rfl | (simp; done) | (simp [*]; done)) : P := h
theorem u10_16 {P : Prop} (h : P := by first | (rw [add_block]; exact hn256_0) | (show (Addr.add _ _).block ≠ _; rw [add_block]; exact hn256_0) | exact hn256_0) : P := h
theorem u10_17 {P : Prop} (h : P := by first | (rw [add_block]; exact hn256_1) | (show (Addr.add _ _).block ≠ _; rw [add_block]; exact hn256_1) | exact hn256_1) : P := h
theorem u10_18 {P : Prop} (h : P := by first | (rw [add_block]; exact hn256_2) | (show (Addr.add _ _).block ≠ _; rw [add_block]; exact hn256_2) | exact hn256_2) : P := h
theorem u10_19 {P : Prop} (h : P := by (with_reducible repeat (first | apply Kd.R_alloc | apply Kd.R_drewN | apply Kd.R_drew)); exact HO287.out) : P := h
theorem u10_20 {P : Prop} (h : P := by (with_reducible repeat (first | refine blk_drewN ?_ _ | refine blk_drew ?_ | refine blk_alloc ?_ _)); exact BK255.out) : P := h
theorem u10_21 {P : Prop} (h : P := by first | (go_simp; done) | (go_simp; rfl)) : P := h
theorem u10_22 {P : Prop} (h : P := by simp only [Nat.min_def]; split <;> omega) : P := h
theorem u10_23 {P : Prop} (h : P := by (with_reducible repeat (first | apply Kd.R_alloc | apply Kd.R_drewN | apply Kd.R_drew)); exact HO268.out) : P := h
/-! ### impl_joined: function 67 -/
def impl_joined.l0 : Nat → List (S26) → List (S26) → Int → Int → Option ((List (S26)))
  | 0, _, _, _, _ => none
  | k + 1, x3, x8, x9, x10 => if x10 < x9 then (if 0 ≤ x10 then (if x10 < (x8.length : Int) then (if (wrap64 ((x3.length : Int) - 1)) ≥ 0 then (if 0 ≤ (wrap64 ((x3.length : Int) - 1)) then (if (wrap64 ((x3.length : Int) - 1)) < (x3.length : Int) then (if ((rd_T26 x3 (wrap64 ((x3.length : Int) - 1))).f2) = ((rd_T26 x8 x10).f2) then (impl_joined.l0 k (x3.set ((wrap64 ((x3.length : Int) - 1)) : Int).toNat (⟨(rd_T26 x3 (wrap64 ((x3.length : Int) - 1))).f0, (rd_T26 x8 x10).f1, (rd_T26 x3 (wrap64 ((x3.length : Int) - 1))).f2⟩ : S26)) x8 x9 (wrap64 (x10 + 1))) else (if x3.length < 5864062014805 then (impl_joined.l0 k (x3 ++ [(⟨(rd_T26 x8 x10).f0, (rd_T26 x8 x10).f1, (rd_T26 x8 x10).f2⟩ : S26)]) x8 x9 (wrap64 (x10 + 1))) else (none))) else (none)) else (none)) else (if x3.length < 5864062014805 then (impl_joined.l0 k (x3 ++ [(⟨(rd_T26 x8 x10).f0, (rd_T26 x8 x10).f1, (rd_T26 x8 x10).f2⟩ : S26)]) x8 x9 (wrap64 (x10 + 1))) else (none))) else (none)) else (none)) else (some x3)
def impl_joined.f (k : Nat) (l0 : List (S26)) : Option ((List (S26))) := impl_joined.l0 k (([] : List (S26))) l0 (l0.length : Int) 0
theorem impl_joined.mono_l : ∀ k, (∀ y0 y1 y2 y3, LeO (impl_joined.l0 k y0 y1 y2 y3) (impl_joined.l0 (k + 1) y0 y1 y2 y3))
  | 0 => fun _ _ _ _ r h => by simp [impl_joined.l0] at h
  | k + 1 => by
    have ih0 := impl_joined.mono_l k
    · intro y0 y1 y2 y3
      unfold impl_joined.l0
      repeat' first
      | (with_reducible exact ih0 _ _ _ _)
      | (with_reducible exact LeO.refl _)
      | (with_reducible exact LeO.none _)
      | (with_reducible refine LeO.ite ?_ ?_)
      | (with_reducible refine LeO.bind ?_ (fun _ => ?_))
      | exact ih0 _ _ _ _
      | exact LeO.none _
      | refine LeO.ite ?_ ?_
      | refine LeO.bind ?_ (fun _ => ?_)
theorem impl_joined.mono : ∀ a0 k, LeO (impl_joined.f k a0) (impl_joined.f (k + 1) a0) := by
  intro a0 k
  have ih0 := impl_joined.mono_l k
  unfold impl_joined.f
  repeat' first
      | (with_reducible exact ih0 _ _ _ _)
      | (with_reducible exact LeO.refl _)
      | (with_reducible exact LeO.none _)
      | (with_reducible refine LeO.ite ?_ ?_)
      | (with_reducible refine LeO.bind ?_ (fun _ => ?_))
      | exact ih0 _ _ _ _
      | exact LeO.none _
      | refine LeO.ite ?_ ?_
      | refine LeO.bind ?_ (fun _ => ?_)
set_option maxHeartbeats 8000000 in
set_option maxRecDepth 100000 in
theorem impl_joined.calls (k : Nat) (A0 : Option Addr) (c0 : Nat) (l0 : List (S26)) (r : List (S26)) (w : World) (hr0 : Kd.C k26 w A0 l0.length l0) (hc0 : l0.length ≤ c0) (h : impl_joined.f k l0 = some r) :
    Calls Try.prog 67 #[.slice A0 l0.length c0] w fun e w' => ∃ v0_ : Value, e = .returned (v0_) ∧ Kd.R k26 26 w' w.heap.size (fun _ => True) v0_ r ∧ Below w.heap.size w w' := by
  have hu26 := Try.underlying26
  have HR0 := Aside0.mk hr0
  have HC0 := Aside0.mk hc0
  clear hr0 hc0
  have HB := Aside0.mk (Below.refl w.heap.size w)
  have H : (impl_joined.l0 k (([] : List (S26))) l0 (l0.length : Int) 0) = some r := h
  clear h
  obtain ⟨y251, hy251⟩ : ∃ y_ : List (S26), y_ = (([] : List (S26))) := ⟨_, rfl⟩
  replace H : (impl_joined.l0 k y251 l0 (l0.length : Int) 0) = some r := by first | (rw [hy251]; with_reducible exact H) | (have H2_ := (Option.bind_some _ _).symm.trans H; rw [hy251]; with_reducible exact H2_) | (have H2_ := (Option.bind_some _ _).symm.trans H; with_reducible exact H2_) | with_reducible exact H | (rw [hy251]; exact H) | exact H
  have Ny251 := Aside0.mk hy251
  clear hy251
  have H' := Aside0.mk H
  clear H
  go_enter Try.func67, Try.ntmps67
  go_wp2_with (first | (first | ((with_reducible refine gate_dst (N := 7) rfl ?_); refine Kd.R_lit k26 _ 26 ?hg (N := 7) ?hd (xs := ([] : List (S26))) (inner := []) (ok := fun _ => True) (okp := fun _ => True) ?hr ?hp (fun _ hk => hk) trivial (Below.refl _ _) (Nat.le_refl _) (by simp) ?_; (case hd => rfl); (case hg => rfl); (case hr => first | (go_simp; done) | (go_simp; rfl)); (case hp => exact (Reps.none _ _)); intro v252 w2 ho3 hb hg_ hnew_; clear hg_ hnew_; (first | rw [← Ny251.out] at ho3 | (simp only [Int.reduceToNat] at ho3; rw [← Ny251.out] at ho3)); have n0_ := Aside0.mk (Kd.R_lower ho3 (below_size u10_1)); have n1_ := Aside0.mk (below_step u10_1 hb); clear HB; have HO253 := n0_; have HB := n1_; clear n0_ n1_; clear hb ho3)) | go_quiet (first | ((with_reducible refine gate_dst (N := 7) rfl ?_); refine Kd.R_lit k26 _ 26 ?hg (N := 7) ?hd (xs := ([] : List (S26))) (inner := []) (ok := fun _ => True) (okp := fun _ => True) ?hr ?hp (fun _ hk => hk) trivial (Below.refl _ _) (Nat.le_refl _) (by simp) ?_; (case hd => rfl); (case hg => rfl); (case hr => first | (go_simp; done) | (go_simp; rfl)); (case hp => exact (Reps.none _ _)); intro v252 w2 ho3 hb hg_ hnew_; clear hg_ hnew_; (first | rw [← Ny251.out] at ho3 | (simp only [Int.reduceToNat] at ho3; rw [← Ny251.out] at ho3)); have n0_ := Aside0.mk (Kd.R_lower ho3 (below_size u10_1)); have n1_ := Aside0.mk (below_step u10_1 hb); clear HB; have HO253 := n0_; have HB := n1_; clear n0_ n1_; clear hb ho3)))
  go_loopg [3, 10] k (fun kq v3 v10 w' => ∃ (x3_1 : List (S26)) (x10_1 : Int), v10 = .int .i64 x10_1 ∧ Aside0 (impl_joined.l0 kq x3_1 l0 (l0.length : Int) x10_1 = some r) ∧ Aside0 (kq ≤ k) ∧ Aside0 (Kd.R k26 26 w' w.heap.size (fun _ => True) v3 x3_1) ∧ Aside0 (Below w.heap.size w w'))
  case atStart => exact ⟨(y251), (0), u10_15, H', ⟨Nat.le_refl _⟩, ⟨(by (with_reducible repeat (first | apply Kd.R_alloc | apply Kd.R_drewN | apply Kd.R_drew)); exact HO253.out)⟩, ⟨u10_1⟩⟩
  clear H'
  try clear p2
  obtain ⟨x3_1, x10_1, rfl, HA, HK1, HO_3, HB⟩ := hrel
  cases gk with
  | zero => exact absurd HA.out (by simp [impl_joined.l0])
  | succ k1 =>
    have H := HA.out
    clear HA
    simp only [impl_joined.l0] at H
    by_cases c4 : x10_1 < (l0.length : Int)
    rotate_left
    · rw [if_neg c4] at H
      have c4b0 : decide (x10_1 < (l0.length : Int)) = false := decide_eq_false c4
      clear c4
      obtain rfl := Option.some.inj H
      go_wp2
      repeat (go_quiet (fail); try go_wp2)
      go_ret
      exact ⟨_, by first | rfl | (simp [errW_none, errW_some] <;> rfl) | (simp [*, errW_none, errW_some] <;> rfl), u10_9, u10_1⟩
    rw [if_pos c4] at H
    have c4b0 : decide (x10_1 < (l0.length : Int)) = true := decide_eq_true c4
    clear c4
    by_cases c5 : 0 ≤ x10_1
    rotate_left
    · rw [if_neg c5] at H
      exact absurd H (by simp)
    rw [if_pos c5] at H
    have c5b0 : decide (0 ≤ x10_1) = true := decide_eq_true c5
    clear c5
    by_cases c6 : x10_1 < (l0.length : Int)
    rotate_left
    · rw [if_neg c6] at H
      exact absurd H (by simp)
    rw [if_pos c6] at H
    have c6b0 : decide (x10_1 < (l0.length : Int)) = true := decide_eq_true c6
    clear c6
    by_cases c7 : (wrap64 ((x3_1.length : Int) - 1)) ≥ 0
    rotate_left
    · rw [if_neg c7] at H
      have c7b0 : decide (0 ≤ (wrap64 ((x3_1.length : Int) - 1))) = false := decide_eq_false c7
      clear c7
      by_cases c25 : x3_1.length < 5864062014805
      rotate_left
      · rw [if_neg c25] at H
        exact absurd H (by simp)
      rw [if_pos c25] at H
      have LMc25 := Aside0.mk c25
      clear c25
      obtain ⟨y261, hy261⟩ : ∃ y_ : List (S26), y_ = (x3_1 ++ [(⟨(rd_T26 l0 x10_1).f0, (rd_T26 l0 x10_1).f1, (rd_T26 l0 x10_1).f2⟩ : S26)]) := ⟨_, rfl⟩
      replace H : (impl_joined.l0 k1 y261 l0 (l0.length : Int) (wrap64 (x10_1 + 1))) = some r := by first | (rw [hy261]; with_reducible exact H) | (have H2_ := (Option.bind_some _ _).symm.trans H; rw [hy261]; with_reducible exact H2_) | (have H2_ := (Option.bind_some _ _).symm.trans H; with_reducible exact H2_) | with_reducible exact H | (rw [hy261]; exact H) | exact H
      have Ny261 := Aside0.mk hy261
      clear hy261
      have H' := Aside0.mk H
      clear H
      have p254 : 0 ≤ (x10_1 : Int) := of_decide_eq_true u10_4
      have q254 : x10_1 < (l0.length : Int) := of_decide_eq_true u10_4
      obtain ⟨ad254, e254, hx254_0, hx254_1, hx254_2⟩ := at_T26 HR0.out x10_1 p254 q254
      cases e254
      replace hx254_0 := (HB.out.cell (World.block_lt_of_cell? w _ hx254_0)).trans hx254_0
      replace hx254_1 := (HB.out.cell (World.block_lt_of_cell? w _ hx254_1)).trans hx254_1
      replace hx254_2 := (HB.out.cell (World.block_lt_of_cell? w _ hx254_2)).trans hx254_2
      replace p254 := eq_true p254
      replace q254 := eq_true q254
      go_wp2_with (first | (first | ((with_reducible refine gate_dst (N := 5) rfl ?_); refine box_event ?hg (N := 5) ?hd (cs := #[.int .u64 0, .int .u64 0, .int .i64 0]) (t := 26) ?hr ?_; (case hd => rfl); (case hg => rfl); (case hr => first | (go_simp; done) | (go_simp; rfl)); intro gb255 hg w26 hbox hb; have n0_ := Aside0.mk (Kd.R_below (Kd.R_elderB u10_9 gb255 (Nat.le_of_eq hg.symm)) hb); have n1_ := Aside0.mk (below_step u10_1 hb); have n2_ := Aside0.mk (hbox); have n3_ := Aside0.mk ((by rw [hg]; exact (below_size u10_1) : w.heap.size ≤ gb255)); have n4_ := Aside0.mk ((by rw [hg]; exact (below_size u10_1) : w.heap.size ≤ gb255)); clear HO_3; clear HB; have HO_3 := n0_; have HB := n1_; have BK255 := n2_; have GW255 := n3_; have GE255 := n4_; clear n0_ n1_ n2_ n3_ n4_; clear hb hbox hg; have hcz27_0 : w26.cell? ⟨gb255, 0, none⟩ = some (.int .u64 0) := (blk_cell BK255.out 0).trans rfl; have hcz27_1 : w26.cell? ⟨gb255, 1, none⟩ = some (.int .u64 0) := (blk_cell BK255.out 1).trans rfl; have hcz27_2 : w26.cell? ⟨gb255, 2, none⟩ = some (.int .i64 0) := (blk_cell BK255.out 2).trans rfl; have hfz27_0 := blk_frozen BK255.out 0; have hfz27_1 := blk_frozen BK255.out 1; have hfz27_2 := blk_frozen BK255.out 2; obtain ⟨Ao28, co28, eo28⟩ := Kd.R_slice HO_3.out; subst eo28) | ((with_reducible refine gate_builtin (b := .append) (xs := #[.tmp 35, .tmp 37]) rfl ?_); at_builtin; refine Kd.R_append k26 (w0 := w) w.heap.size rfl (.tmp 35) (.tmp 37) 32 26 (.agg #[(.int .u64 0), (.int .u64 0), (.int .i64 0)]) 24 rfl Try.underlying32 info26 rfl (by decide) (by omega) (.slice Ao28 x3_1.length co28) x3_1 (⟨(rd_T26 l0 x10_1).f0, (rd_T26 l0 x10_1).f1, (rd_T26 l0 x10_1).f2⟩ : S26) [.int .u64 ((rd_T26 l0 x10_1).f0), .int .u64 ((rd_T26 l0 x10_1).f1), .int .i64 ((rd_T26 l0 x10_1).f2)] (fun k_ => k_ ≠ gb255) (fun _ => False) rfl u10_21 ?aP (fun _ hk => hk.elim) ?aF ?aO ?aB ?aS ?aL ?_; (case aP => exact k26_mkM _ _ _ (⟨(rd_T26 l0 x10_1).f0, (rd_T26 l0 x10_1).f1, (rd_T26 l0 x10_1).f2⟩ : S26)); (case aB => exact u10_3); (case aF => exact (fun k_ hk => Kd.freshB (g := gb255) (o := .cells #[.int .u64 ((rd_T26 l0 x10_1).f0), .int .u64 ((rd_T26 l0 x10_1).f1), .int .i64 ((rd_T26 l0 x10_1).f2)] 26 (0, 0)) u10_0 k_ hk)); (case aO => exact u10_2); (case aS => exact (below_size u10_3)); (case aL => have := LMc25.out; omega); intro v262 w29 ho hb hg hat; rw [← Ny261.out] at ho; have n0_ := Aside0.mk (blk_grown (g := gb255) (o := .cells #[.int .u64 ((rd_T26 l0 x10_1).f0), .int .u64 ((rd_T26 l0 x10_1).f1), .int .i64 ((rd_T26 l0 x10_1).f2)] 26 (0, 0)) u10_0 hg (Kd.R_away HO_3.out (fun _ hk => hk.2))); have n1_ := Aside0.mk (hb); have n2_ := Aside0.mk (ho); clear BK255; clear HB; clear HO_3; have BK255 := n0_; have HB := n1_; have HO263 := n2_; clear n0_ n1_ n2_; clear ho hb hg hat)) | go_quiet (first | ((with_reducible refine gate_builtin (b := .append) (xs := #[.tmp 35, .tmp 37]) rfl ?_); at_builtin; refine Kd.R_append k26 (w0 := w) w.heap.size rfl (.tmp 35) (.tmp 37) 32 26 (.agg #[(.int .u64 0), (.int .u64 0), (.int .i64 0)]) 24 rfl Try.underlying32 info26 rfl (by decide) (by omega) (.slice Ao28 x3_1.length co28) x3_1 (⟨(rd_T26 l0 x10_1).f0, (rd_T26 l0 x10_1).f1, (rd_T26 l0 x10_1).f2⟩ : S26) [.int .u64 ((rd_T26 l0 x10_1).f0), .int .u64 ((rd_T26 l0 x10_1).f1), .int .i64 ((rd_T26 l0 x10_1).f2)] (fun k_ => k_ ≠ gb255) (fun _ => False) rfl u10_21 ?aP (fun _ hk => hk.elim) ?aF ?aO ?aB ?aS ?aL ?_; (case aP => exact k26_mkM _ _ _ (⟨(rd_T26 l0 x10_1).f0, (rd_T26 l0 x10_1).f1, (rd_T26 l0 x10_1).f2⟩ : S26)); (case aB => exact u10_3); (case aF => exact (fun k_ hk => Kd.freshB (g := gb255) (o := .cells #[.int .u64 ((rd_T26 l0 x10_1).f0), .int .u64 ((rd_T26 l0 x10_1).f1), .int .i64 ((rd_T26 l0 x10_1).f2)] 26 (0, 0)) u10_0 k_ hk)); (case aO => exact u10_2); (case aS => exact (below_size u10_3)); (case aL => have := LMc25.out; omega); intro v262 w29 ho hb hg hat; rw [← Ny261.out] at ho; have n0_ := Aside0.mk (blk_grown (g := gb255) (o := .cells #[.int .u64 ((rd_T26 l0 x10_1).f0), .int .u64 ((rd_T26 l0 x10_1).f1), .int .i64 ((rd_T26 l0 x10_1).f2)] 26 (0, 0)) u10_0 hg (Kd.R_away HO_3.out (fun _ hk => hk.2))); have n1_ := Aside0.mk (hb); have n2_ := Aside0.mk (ho); clear BK255; clear HB; clear HO_3; have BK255 := n0_; have HB := n1_; have HO263 := n2_; clear n0_ n1_ n2_; clear ho hb hg hat)))
      go_roundg k1
      case measure => have := HK1.out; omega
      case rel => exact ⟨(y261), (wrap64 (x10_1 + 1)), u10_15, H', ⟨by have := HK1.out; omega⟩, ⟨(by (with_reducible repeat (first | apply Kd.R_alloc | apply Kd.R_drewN | apply Kd.R_drew)); exact Kd.R_mono HO263.out (fun _ hk => trivial))⟩, ⟨u10_3⟩⟩
    rw [if_pos c7] at H
    have c7b0 : decide (0 ≤ (wrap64 ((x3_1.length : Int) - 1))) = true := decide_eq_true c7
    clear c7
    obtain ⟨ji8, hji8⟩ : ∃ j_ : Int, (wrap64 ((x3_1.length : Int) - 1)) = j_ := ⟨_, rfl⟩
    replace H : (if 0 ≤ (ji8) then (if (ji8) < (x3_1.length : Int) then (if ((rd_T26 x3_1 (ji8)).f2) = ((rd_T26 l0 x10_1).f2) then (impl_joined.l0 k1 (x3_1.set ((ji8) : Int).toNat (⟨(rd_T26 x3_1 (ji8)).f0, (rd_T26 l0 x10_1).f1, (rd_T26 x3_1 (ji8)).f2⟩ : S26)) l0 (l0.length : Int) (wrap64 (x10_1 + 1))) else (if x3_1.length < 5864062014805 then (impl_joined.l0 k1 (x3_1 ++ [(⟨(rd_T26 l0 x10_1).f0, (rd_T26 l0 x10_1).f1, (rd_T26 l0 x10_1).f2⟩ : S26)]) l0 (l0.length : Int) (wrap64 (x10_1 + 1))) else (none))) else (none)) else (none)) = some r := by first | (rw [hji8] at H; exact H) | (simp only [hji8] at H ⊢; exact H)
    (try rw [hji8] at c7b0)
    have hji8w : (IntKind.i64.wrap ((x3_1.length : Int) - 1)) = ji8 := (i64_w _).trans hji8
    by_cases c9 : 0 ≤ (ji8)
    rotate_left
    · rw [if_neg c9] at H
      exact absurd H (by simp)
    rw [if_pos c9] at H
    have c9b0 : decide (0 ≤ (ji8)) = true := decide_eq_true c9
    clear c9
    by_cases c10 : (ji8) < (x3_1.length : Int)
    rotate_left
    · rw [if_neg c10] at H
      exact absurd H (by simp)
    rw [if_pos c10] at H
    have c10b0 : decide ((ji8) < (x3_1.length : Int)) = true := decide_eq_true c10
    clear c10
    by_cases c11 : ((rd_T26 x3_1 (ji8)).f2) = ((rd_T26 l0 x10_1).f2)
    rotate_left
    · rw [if_neg c11] at H
      have c11b0 : (((rd_T26 x3_1 (ji8)).f2) == ((rd_T26 l0 x10_1).f2)) = false := beq_eq_false_iff_ne.mpr c11
      have c11b1 : (((rd_T26 x3_1 (ji8)).f2) != ((rd_T26 l0 x10_1).f2)) = true := bne_iff_ne.mpr c11
      by_cases c20 : x3_1.length < 5864062014805
      rotate_left
      · rw [if_neg c20] at H
        exact absurd H (by simp)
      rw [if_pos c20] at H
      have LMc20 := Aside0.mk c20
      clear c20
      obtain ⟨y258, hy258⟩ : ∃ y_ : List (S26), y_ = (x3_1 ++ [(⟨(rd_T26 l0 x10_1).f0, (rd_T26 l0 x10_1).f1, (rd_T26 l0 x10_1).f2⟩ : S26)]) := ⟨_, rfl⟩
      replace H : (impl_joined.l0 k1 y258 l0 (l0.length : Int) (wrap64 (x10_1 + 1))) = some r := by first | (rw [hy258]; with_reducible exact H) | (have H2_ := (Option.bind_some _ _).symm.trans H; rw [hy258]; with_reducible exact H2_) | (have H2_ := (Option.bind_some _ _).symm.trans H; with_reducible exact H2_) | with_reducible exact H | (rw [hy258]; exact H) | exact H
      have Ny258 := Aside0.mk hy258
      clear hy258
      have H' := Aside0.mk H
      clear H
      have p254 : 0 ≤ (x10_1 : Int) := of_decide_eq_true u10_4
      have q254 : x10_1 < (l0.length : Int) := of_decide_eq_true u10_4
      obtain ⟨ad254, e254, hx254_0, hx254_1, hx254_2⟩ := at_T26 HR0.out x10_1 p254 q254
      cases e254
      replace hx254_0 := (HB.out.cell (World.block_lt_of_cell? w _ hx254_0)).trans hx254_0
      replace hx254_1 := (HB.out.cell (World.block_lt_of_cell? w _ hx254_1)).trans hx254_1
      replace hx254_2 := (HB.out.cell (World.block_lt_of_cell? w _ hx254_2)).trans hx254_2
      replace p254 := eq_true p254
      replace q254 := eq_true q254
      go_wp2_with (first | (first | ((with_reducible refine gate_dst (N := 5) rfl ?_); refine box_event ?hg (N := 5) ?hd (cs := #[.int .u64 0, .int .u64 0, .int .i64 0]) (t := 26) ?hr ?_; (case hd => rfl); (case hg => rfl); (case hr => first | (go_simp; done) | (go_simp; rfl)); intro gb255 hg w21 hbox hb; have n0_ := Aside0.mk (Kd.R_below (Kd.R_elderB u10_9 gb255 (Nat.le_of_eq hg.symm)) hb); have n1_ := Aside0.mk (below_step u10_1 hb); have n2_ := Aside0.mk (hbox); have n3_ := Aside0.mk ((by rw [hg]; exact (below_size u10_1) : w.heap.size ≤ gb255)); have n4_ := Aside0.mk ((by rw [hg]; exact (below_size u10_1) : w.heap.size ≤ gb255)); clear HO_3; clear HB; have HO_3 := n0_; have HB := n1_; have BK255 := n2_; have GW255 := n3_; have GE255 := n4_; clear n0_ n1_ n2_ n3_ n4_; clear hb hbox hg; have hcz22_0 : w21.cell? ⟨gb255, 0, none⟩ = some (.int .u64 0) := (blk_cell BK255.out 0).trans rfl; have hcz22_1 : w21.cell? ⟨gb255, 1, none⟩ = some (.int .u64 0) := (blk_cell BK255.out 1).trans rfl; have hcz22_2 : w21.cell? ⟨gb255, 2, none⟩ = some (.int .i64 0) := (blk_cell BK255.out 2).trans rfl; have hfz22_0 := blk_frozen BK255.out 0; have hfz22_1 := blk_frozen BK255.out 1; have hfz22_2 := blk_frozen BK255.out 2; obtain ⟨Ao23, co23, eo23⟩ := Kd.R_slice HO_3.out; subst eo23; have p256 : 0 ≤ ((ji8) : Int) := of_decide_eq_true u10_4; have q256 : (ji8) < (x3_1.length : Int) := of_decide_eq_true u10_4; obtain ⟨ad256, e256, hx256_0, hx256_1, hx256_2⟩ := at_T26 (Kd.R_reads' HO_3.out).2.2 (ji8) p256 q256; cases e256; have hn256_0 : ad256.block ≠ gb255 := u10_12; have hn256_1 : ad256.block ≠ gb255 := u10_12; have hn256_2 : ad256.block ≠ gb255 := u10_12; replace hx256_0 := (cell_far (p := ⟨gb255, 0, none⟩) u10_16 (.int .u64 ((rd_T26 l0 x10_1).f0))).trans hx256_0; replace hx256_1 := (cell_far (p := ⟨gb255, 0, none⟩) u10_16 (.int .u64 ((rd_T26 l0 x10_1).f0))).trans hx256_1; replace hx256_2 := (cell_far (p := ⟨gb255, 0, none⟩) u10_16 (.int .u64 ((rd_T26 l0 x10_1).f0))).trans hx256_2; replace hx256_0 := (cell_far (p := ⟨gb255, 1, none⟩) u10_17 (.int .u64 ((rd_T26 l0 x10_1).f1))).trans hx256_0; replace hx256_1 := (cell_far (p := ⟨gb255, 1, none⟩) u10_17 (.int .u64 ((rd_T26 l0 x10_1).f1))).trans hx256_1; replace hx256_2 := (cell_far (p := ⟨gb255, 1, none⟩) u10_17 (.int .u64 ((rd_T26 l0 x10_1).f1))).trans hx256_2; replace hx256_0 := (cell_far (p := ⟨gb255, 2, none⟩) u10_18 (.int .i64 ((rd_T26 l0 x10_1).f2))).trans hx256_0; replace hx256_1 := (cell_far (p := ⟨gb255, 2, none⟩) u10_18 (.int .i64 ((rd_T26 l0 x10_1).f2))).trans hx256_1; replace hx256_2 := (cell_far (p := ⟨gb255, 2, none⟩) u10_18 (.int .i64 ((rd_T26 l0 x10_1).f2))).trans hx256_2; (try have hch_ := fun (n_ : Nat) => (show (((((w21.drewN n_).setCell ⟨gb255, 0, none⟩ (.int .u64 ((rd_T26 l0 x10_1).f0))).setCell ⟨gb255, 1, none⟩ (.int .u64 ((rd_T26 l0 x10_1).f1))).setCell ⟨gb255, 2, none⟩ (.int .i64 ((rd_T26 l0 x10_1).f2)))) = World.drewN ((((w21.setCell ⟨gb255, 0, none⟩ (.int .u64 ((rd_T26 l0 x10_1).f0))).setCell ⟨gb255, 1, none⟩ (.int .u64 ((rd_T26 l0 x10_1).f1))).setCell ⟨gb255, 2, none⟩ (.int .i64 ((rd_T26 l0 x10_1).f2)))) n_ from by simp only [Go.Proofs.Ytfabcjkaoidmeaa.Slc.setCell_drewN])); (try have hy256_0 := fun (n_ : Nat) => Go.Proofs.Ytfabcjkaoidmeaa.Slc.cell_of (hch_ n_) hx256_0); (try have hy256_1 := fun (n_ : Nat) => Go.Proofs.Ytfabcjkaoidmeaa.Slc.cell_of (hch_ n_) hx256_1); (try have hy256_2 := fun (n_ : Nat) => Go.Proofs.Ytfabcjkaoidmeaa.Slc.cell_of (hch_ n_) hx256_2); clear hn256_0; clear hn256_1; clear hn256_2; replace p256 := eq_true p256; replace q256 := eq_true q256) | ((with_reducible refine gate_builtin (b := .append) (xs := #[.tmp 35, .tmp 37]) rfl ?_); at_builtin; refine Kd.R_append k26 (w0 := w) w.heap.size rfl (.tmp 35) (.tmp 37) 32 26 (.agg #[(.int .u64 0), (.int .u64 0), (.int .i64 0)]) 24 rfl Try.underlying32 info26 rfl (by decide) (by omega) (.slice (some ad256) x3_1.length co23) x3_1 (⟨(rd_T26 l0 x10_1).f0, (rd_T26 l0 x10_1).f1, (rd_T26 l0 x10_1).f2⟩ : S26) [.int .u64 ((rd_T26 l0 x10_1).f0), .int .u64 ((rd_T26 l0 x10_1).f1), .int .i64 ((rd_T26 l0 x10_1).f2)] (fun k_ => k_ ≠ gb255) (fun _ => False) rfl u10_21 ?aP (fun _ hk => hk.elim) ?aF ?aO ?aB ?aS ?aL ?_; (case aP => exact k26_mkM _ _ _ (⟨(rd_T26 l0 x10_1).f0, (rd_T26 l0 x10_1).f1, (rd_T26 l0 x10_1).f2⟩ : S26)); (case aB => exact u10_3); (case aF => exact (fun k_ hk => Kd.freshB (g := gb255) (o := .cells #[.int .u64 ((rd_T26 l0 x10_1).f0), .int .u64 ((rd_T26 l0 x10_1).f1), .int .i64 ((rd_T26 l0 x10_1).f2)] 26 (0, 0)) u10_0 k_ hk)); (case aO => exact u10_2); (case aS => exact (below_size u10_3)); (case aL => have := LMc20.out; omega); intro v259 w24 ho hb hg hat; rw [← Ny258.out] at ho; have n0_ := Aside0.mk (blk_grown (g := gb255) (o := .cells #[.int .u64 ((rd_T26 l0 x10_1).f0), .int .u64 ((rd_T26 l0 x10_1).f1), .int .i64 ((rd_T26 l0 x10_1).f2)] 26 (0, 0)) u10_0 hg (Kd.R_away HO_3.out (fun _ hk => hk.2))); have n1_ := Aside0.mk (hb); have n2_ := Aside0.mk (ho); clear BK255; clear HB; clear HO_3; have BK255 := n0_; have HB := n1_; have HO260 := n2_; clear n0_ n1_ n2_; clear ho hb hg hat)) | go_quiet (first | ((with_reducible refine gate_builtin (b := .append) (xs := #[.tmp 35, .tmp 37]) rfl ?_); at_builtin; refine Kd.R_append k26 (w0 := w) w.heap.size rfl (.tmp 35) (.tmp 37) 32 26 (.agg #[(.int .u64 0), (.int .u64 0), (.int .i64 0)]) 24 rfl Try.underlying32 info26 rfl (by decide) (by omega) (.slice (some ad256) x3_1.length co23) x3_1 (⟨(rd_T26 l0 x10_1).f0, (rd_T26 l0 x10_1).f1, (rd_T26 l0 x10_1).f2⟩ : S26) [.int .u64 ((rd_T26 l0 x10_1).f0), .int .u64 ((rd_T26 l0 x10_1).f1), .int .i64 ((rd_T26 l0 x10_1).f2)] (fun k_ => k_ ≠ gb255) (fun _ => False) rfl u10_21 ?aP (fun _ hk => hk.elim) ?aF ?aO ?aB ?aS ?aL ?_; (case aP => exact k26_mkM _ _ _ (⟨(rd_T26 l0 x10_1).f0, (rd_T26 l0 x10_1).f1, (rd_T26 l0 x10_1).f2⟩ : S26)); (case aB => exact u10_3); (case aF => exact (fun k_ hk => Kd.freshB (g := gb255) (o := .cells #[.int .u64 ((rd_T26 l0 x10_1).f0), .int .u64 ((rd_T26 l0 x10_1).f1), .int .i64 ((rd_T26 l0 x10_1).f2)] 26 (0, 0)) u10_0 k_ hk)); (case aO => exact u10_2); (case aS => exact (below_size u10_3)); (case aL => have := LMc20.out; omega); intro v259 w24 ho hb hg hat; rw [← Ny258.out] at ho; have n0_ := Aside0.mk (blk_grown (g := gb255) (o := .cells #[.int .u64 ((rd_T26 l0 x10_1).f0), .int .u64 ((rd_T26 l0 x10_1).f1), .int .i64 ((rd_T26 l0 x10_1).f2)] 26 (0, 0)) u10_0 hg (Kd.R_away HO_3.out (fun _ hk => hk.2))); have n1_ := Aside0.mk (hb); have n2_ := Aside0.mk (ho); clear BK255; clear HB; clear HO_3; have BK255 := n0_; have HB := n1_; have HO260 := n2_; clear n0_ n1_ n2_; clear ho hb hg hat)))
      go_roundg k1
      case measure => have := HK1.out; omega
      case rel => exact ⟨(y258), (wrap64 (x10_1 + 1)), u10_15, H', ⟨by have := HK1.out; omega⟩, ⟨(by (with_reducible repeat (first | apply Kd.R_alloc | apply Kd.R_drewN | apply Kd.R_drew)); exact Kd.R_mono HO260.out (fun _ hk => trivial))⟩, ⟨u10_3⟩⟩
    rw [if_pos c11] at H
    have c11b0 : (((rd_T26 x3_1 (ji8)).f2) == ((rd_T26 l0 x10_1).f2)) = true := beq_iff_eq.mpr c11
    have c11b1 : (((rd_T26 x3_1 (ji8)).f2) != ((rd_T26 l0 x10_1).f2)) = false := bne_eq_false_iff_eq.mpr c11
    clear c11
    obtain ⟨y257, hy257⟩ : ∃ y_ : List (S26), y_ = (x3_1.set ((ji8) : Int).toNat (⟨(rd_T26 x3_1 (ji8)).f0, (rd_T26 l0 x10_1).f1, (rd_T26 x3_1 (ji8)).f2⟩ : S26)) := ⟨_, rfl⟩
    replace H : (impl_joined.l0 k1 y257 l0 (l0.length : Int) (wrap64 (x10_1 + 1))) = some r := by first | (rw [hy257]; with_reducible exact H) | (have H2_ := (Option.bind_some _ _).symm.trans H; rw [hy257]; with_reducible exact H2_) | (have H2_ := (Option.bind_some _ _).symm.trans H; with_reducible exact H2_) | with_reducible exact H | (rw [hy257]; exact H) | exact H
    have Ny257 := Aside0.mk hy257
    clear hy257
    have H' := Aside0.mk H
    clear H
    have p254 : 0 ≤ (x10_1 : Int) := of_decide_eq_true u10_4
    have q254 : x10_1 < (l0.length : Int) := of_decide_eq_true u10_4
    obtain ⟨ad254, e254, hx254_0, hx254_1, hx254_2⟩ := at_T26 HR0.out x10_1 p254 q254
    cases e254
    replace hx254_0 := (HB.out.cell (World.block_lt_of_cell? w _ hx254_0)).trans hx254_0
    replace hx254_1 := (HB.out.cell (World.block_lt_of_cell? w _ hx254_1)).trans hx254_1
    replace hx254_2 := (HB.out.cell (World.block_lt_of_cell? w _ hx254_2)).trans hx254_2
    replace p254 := eq_true p254
    replace q254 := eq_true q254
    go_wp2_with (first | (first | ((with_reducible refine gate_dst (N := 5) rfl ?_); refine box_event ?hg (N := 5) ?hd (cs := #[.int .u64 0, .int .u64 0, .int .i64 0]) (t := 26) ?hr ?_; (case hd => rfl); (case hg => rfl); (case hr => first | (go_simp; done) | (go_simp; rfl)); intro gb255 hg w13 hbox hb; have n0_ := Aside0.mk (Kd.R_below (Kd.R_elderB u10_9 gb255 (Nat.le_of_eq hg.symm)) hb); have n1_ := Aside0.mk (below_step u10_1 hb); have n2_ := Aside0.mk (hbox); have n3_ := Aside0.mk ((by rw [hg]; exact (below_size u10_1) : w.heap.size ≤ gb255)); have n4_ := Aside0.mk ((by rw [hg]; exact (below_size u10_1) : w.heap.size ≤ gb255)); clear HO_3; clear HB; have HO_3 := n0_; have HB := n1_; have BK255 := n2_; have GW255 := n3_; have GE255 := n4_; clear n0_ n1_ n2_ n3_ n4_; clear hb hbox hg; have hcz14_0 : w13.cell? ⟨gb255, 0, none⟩ = some (.int .u64 0) := (blk_cell BK255.out 0).trans rfl; have hcz14_1 : w13.cell? ⟨gb255, 1, none⟩ = some (.int .u64 0) := (blk_cell BK255.out 1).trans rfl; have hcz14_2 : w13.cell? ⟨gb255, 2, none⟩ = some (.int .i64 0) := (blk_cell BK255.out 2).trans rfl; have hfz14_0 := blk_frozen BK255.out 0; have hfz14_1 := blk_frozen BK255.out 1; have hfz14_2 := blk_frozen BK255.out 2) | ((with_reducible refine gate_store (t := 26) (p := 5) rfl ?_); (try (rw [drewN_self w13]; generalize hq_ : World.drewN w13 _ = w13; have n0_ := Aside0.mk (Kd.R_at hq_ HO_3.out); have n1_ := Aside0.mk (blk_at hq_ BK255.out); have n2_ := Aside0.mk (below_at hq_ HB.out); clear hq_ HO_3 BK255 HB; have HO_3 := n0_; have BK255 := n1_; have HB := n2_; clear n0_ n1_ n2_)); refine store_event (t := 26) (p := 5) (v := ?vo_w15) (w1 := (((w13.setCell ⟨gb255, 0, none⟩ (.int .u64 ((rd_T26 l0 x10_1).f0))).setCell ⟨gb255, 1, none⟩ (.int .u64 ((rd_T26 l0 x10_1).f1))).setCell ⟨gb255, 2, none⟩ (.int .i64 ((rd_T26 l0 x10_1).f2)))) ?hg ?ho ?hn ?hr ?_; (case ho => rfl); (case hg => rfl); (case hn => rfl); (case hr => first | (go_simp; done) | (go_simp; rfl)); intro w15 hw; have n0_ : Aside0 (Kd.R k26 26 w15 w.heap.size (fun k_ => k_ ≠ gb255) u3 x3_1) := ⟨(by rw [hw]; exact u10_2)⟩; have n1_ : Aside0 (w15.heap[gb255]? = some (.cells #[.int .u64 ((rd_T26 l0 x10_1).f0), .int .u64 ((rd_T26 l0 x10_1).f1), .int .i64 ((rd_T26 l0 x10_1).f2)] 26 (0, 0))) := ⟨(by rw [hw]; exact u10_0)⟩; have n2_ : Aside0 (Below w.heap.size w w15) := ⟨(by rw [hw]; exact u10_3)⟩; clear hw; clear HO_3; clear BK255; clear HB; have HO_3 := n0_; have BK255 := n1_; have HB := n2_; clear n0_ n1_ n2_; obtain ⟨Ao16, co16, eo16⟩ := Kd.R_slice HO_3.out; subst eo16; have p256 : 0 ≤ ((ji8) : Int) := of_decide_eq_true u10_4; have q256 : (ji8) < (x3_1.length : Int) := of_decide_eq_true u10_4; obtain ⟨ad256, e256, hx256_0, hx256_1, hx256_2⟩ := at_T26 (Kd.R_reads' HO_3.out).2.2 (ji8) p256 q256; cases e256; replace p256 := eq_true p256; replace q256 := eq_true q256; have hcz17_0 : w15.cell? ⟨gb255, 0, none⟩ = some (.int .u64 ((rd_T26 l0 x10_1).f0)) := (blk_cell BK255.out 0).trans rfl; have hcz17_1 : w15.cell? ⟨gb255, 1, none⟩ = some (.int .u64 ((rd_T26 l0 x10_1).f1)) := (blk_cell BK255.out 1).trans rfl; have hcz17_2 : w15.cell? ⟨gb255, 2, none⟩ = some (.int .i64 ((rd_T26 l0 x10_1).f2)) := (blk_cell BK255.out 2).trans rfl; have hfz17_0 := blk_frozen BK255.out 0; have hfz17_1 := blk_frozen BK255.out 1; have hfz17_2 := blk_frozen BK255.out 2; have p12 : 0 ≤ ((ji8) : Int) := of_decide_eq_true u10_4; have q12 : ((ji8) : Int) < ((x3_1.length : Int) : Int) := of_decide_eq_true u10_4; obtain ⟨go12, co12, eo12, gb12, gl12, cl12, HG12⟩ := Kd.R_form HO_3.out (by omega); (first | cases eo12 | (injection eo12 with ea_ en_ ec_; (first | subst ea_ | (injection ea_ with ea_; subst ea_)); subst ec_; clear en_)); have GB12 := Aside0.mk gb12; have GG12 := Aside0.mk HG12; clear gb12 gl12 HG12; (first | simp only [add_plain] at hx256_0 | skip); (first | simp only [add_plain] at hx256_1 | skip); (first | simp only [add_plain] at hx256_2 | skip); obtain ⟨ce12, hcl12, hM12, hcc12, hfr12⟩ := Kd.R_elem HO_3.out z26 ((ji8) : Int) p12 q12; obtain rfl := k26_openM hM12; have hx12_0 : w15.cell? ⟨go12, ((ji8) : Int).toNat * 3, none⟩ = some (.int .u64 ((rd_T26 x3_1 (ji8)).f0)) := hcc12 0 _ rfl; have hx12_1 : w15.cell? ⟨go12, ((ji8) : Int).toNat * 3 + 1, none⟩ = some (.int .u64 ((rd_T26 x3_1 (ji8)).f1)) := hcc12 1 _ rfl; have hx12_2 : w15.cell? ⟨go12, ((ji8) : Int).toNat * 3 + 2, none⟩ = some (.int .i64 ((rd_T26 x3_1 (ji8)).f2)) := hcc12 2 _ rfl; have hf12_0 : w15.frozen? ⟨go12, ((ji8) : Int).toNat * 3, none⟩ = false := hfr12 0; have hf12_1 : w15.frozen? ⟨go12, ((ji8) : Int).toNat * 3 + 1, none⟩ = false := hfr12 1; have hf12_2 : w15.frozen? ⟨go12, ((ji8) : Int).toNat * 3 + 2, none⟩ = false := hfr12 2; clear hcl12 hcc12 hfr12 hM12; replace p12 := eq_true p12; replace q12 := eq_true q12; have HX18 := Aside0.mk (show Kd.R k26 26 w15 w.heap.size (fun k_ => k_ ≠ gb255) (.slice (some ⟨go12, 0, none⟩) x3_1.length co16) x3_1 from u10_9); obtain ⟨ce18, hcl18, hM18, hcc18, hfr18⟩ := Kd.R_elem HX18.out z26 ((ji8) : Int) (of_decide_eq_true u10_4) (by have h_ : ((ji8) : Int) < ((x3_1.length : Int) : Int) := of_decide_eq_true u10_4; first | exact h_ | (have e_ := (Kd.R_reads' HO_3.out).1; omega) | simpa using h_); obtain rfl := k26_openM hM18; have HP18 := Kd.R_seg HX18.out ((ji8) : Int) (of_decide_eq_true u10_4) (by have h_ : ((ji8) : Int) < ((x3_1.length : Int) : Int) := of_decide_eq_true u10_4; first | exact h_ | (have e_ := (Kd.R_reads' HO_3.out).1; omega) | simpa using h_) (seg := [.int .u64 ((rd_T26 l0 x10_1).f1)]) (j := 1) hcl18 hcc18 (show 2 ≤ 3 from by decide) (x' := (⟨(rd_T26 x3_1 (ji8)).f0, (rd_T26 l0 x10_1).f1, (rd_T26 x3_1 (ji8)).f2⟩ : S26)) (k26_mkM _ _ _ (⟨(rd_T26 x3_1 (ji8)).f0, (rd_T26 l0 x10_1).f1, (rd_T26 x3_1 (ji8)).f2⟩ : S26) ) (fun _ hk => hk); have hx18_1 := hcc18 1 _ rfl; (try simp only [show (k26).sz = 3 from rfl, Nat.mul_one, Nat.add_zero] at hx18_1); have hf18_1 := hfr18 1; (try simp only [show (k26).sz = 3 from rfl, Nat.mul_one, Nat.add_zero] at hf18_1); clear hcl18 hcc18 hfr18 hM18) | ((with_reducible refine gate_store (t := 22) (p := 34) rfl ?_); (try (rw [drewN_self w15]; generalize hq_ : World.drewN w15 _ = w15; have n0_ := Aside0.mk (Kd.R_at hq_ HO_3.out); have n1_ := Aside0.mk (blk_at hq_ BK255.out); have n2_ := Aside0.mk (below_at hq_ HB.out); clear hq_ HO_3 BK255 HB; have HO_3 := n0_; have BK255 := n1_; have HB := n2_; clear n0_ n1_ n2_; (try (have HX18 := Aside0.mk (show Kd.R k26 26 w15 w.heap.size (fun k_ => k_ ≠ gb255) (.slice (some ⟨go12, 0, none⟩) x3_1.length co16) x3_1 from u10_9))); (try (obtain ⟨ce18, hcl18, hM18, hcc18, hfr18⟩ := Kd.R_elem HX18.out z26 ((ji8) : Int) (of_decide_eq_true u10_4) (by have h_ : ((ji8) : Int) < ((x3_1.length : Int) : Int) := of_decide_eq_true u10_4; first | exact h_ | (have e_ := (Kd.R_reads' HO_3.out).1; omega) | simpa using h_))); (try (obtain rfl := k26_openM hM18)); (try (have HP18 := Kd.R_seg HX18.out ((ji8) : Int) (of_decide_eq_true u10_4) (by have h_ : ((ji8) : Int) < ((x3_1.length : Int) : Int) := of_decide_eq_true u10_4; first | exact h_ | (have e_ := (Kd.R_reads' HO_3.out).1; omega) | simpa using h_) (seg := [.int .u64 ((rd_T26 l0 x10_1).f1)]) (j := 1) hcl18 hcc18 (show 2 ≤ 3 from by decide) (x' := (⟨(rd_T26 x3_1 (ji8)).f0, (rd_T26 l0 x10_1).f1, (rd_T26 x3_1 (ji8)).f2⟩ : S26)) (k26_mkM _ _ _ (⟨(rd_T26 x3_1 (ji8)).f0, (rd_T26 l0 x10_1).f1, (rd_T26 x3_1 (ji8)).f2⟩ : S26) ) (fun _ hk => hk))); (try (have hx18_1 := hcc18 1 _ rfl)); (try (try simp only [show (k26).sz = 3 from rfl, Nat.mul_one, Nat.add_zero] at hx18_1)); (try (have hf18_1 := hfr18 1)); (try (try simp only [show (k26).sz = 3 from rfl, Nat.mul_one, Nat.add_zero] at hf18_1)); (try (clear hcl18 hcc18 hfr18 hM18)))); refine store_event (t := 22) (p := 34) (v := ?vo_w19) (w1 := (w15.setCell ⟨go12, ((ji8) : Int).toNat * 3 + 1, none⟩ (.int .u64 ((rd_T26 l0 x10_1).f1)))) ?hg ?ho ?hn ?hr ?_; (case ho => rfl); (case hg => rfl); (case hn => rfl); (case hr => first | (go_simp; done) | (go_simp; rfl)); intro w19 hw; have hg : w15.grownBy w19 (some go12) := (by rw [hw]; exact HP18.2); have hp_ : Kd.R k26 26 w19 w.heap.size (fun k_ => k_ ≠ gb255) (.slice (some ⟨go12, 0, none⟩) x3_1.length co16) y257 := (by rw [hw, Ny257.out]; exact HP18.1); clear HP18; have n0_ := Aside0.mk (hp_); have n1_ := Aside0.mk (blk_grown (g := gb255) (o := .cells #[.int .u64 ((rd_T26 l0 x10_1).f0), .int .u64 ((rd_T26 l0 x10_1).f1), .int .i64 ((rd_T26 l0 x10_1).f2)] 26 (0, 0)) u10_20 hg (Kd.R_away HO_3.out (fun _ hk => hk))); have n2_ := Aside0.mk ((by rw [hw]; exact below_set (HB.out) GB12.out : Below w.heap.size w w19)); clear HO_3; clear BK255; clear HB; have HO_3 := n0_; have BK255 := n1_; have HB := n2_; clear n0_ n1_ n2_; clear hg hw hp_)) | go_quiet (first | ((with_reducible refine gate_store (t := 26) (p := 5) rfl ?_); (try (rw [drewN_self w13]; generalize hq_ : World.drewN w13 _ = w13; have n0_ := Aside0.mk (Kd.R_at hq_ HO_3.out); have n1_ := Aside0.mk (blk_at hq_ BK255.out); have n2_ := Aside0.mk (below_at hq_ HB.out); clear hq_ HO_3 BK255 HB; have HO_3 := n0_; have BK255 := n1_; have HB := n2_; clear n0_ n1_ n2_)); refine store_event (t := 26) (p := 5) (v := ?vo_w15) (w1 := (((w13.setCell ⟨gb255, 0, none⟩ (.int .u64 ((rd_T26 l0 x10_1).f0))).setCell ⟨gb255, 1, none⟩ (.int .u64 ((rd_T26 l0 x10_1).f1))).setCell ⟨gb255, 2, none⟩ (.int .i64 ((rd_T26 l0 x10_1).f2)))) ?hg ?ho ?hn ?hr ?_; (case ho => rfl); (case hg => rfl); (case hn => rfl); (case hr => first | (go_simp; done) | (go_simp; rfl)); intro w15 hw; have n0_ : Aside0 (Kd.R k26 26 w15 w.heap.size (fun k_ => k_ ≠ gb255) u3 x3_1) := ⟨(by rw [hw]; exact u10_2)⟩; have n1_ : Aside0 (w15.heap[gb255]? = some (.cells #[.int .u64 ((rd_T26 l0 x10_1).f0), .int .u64 ((rd_T26 l0 x10_1).f1), .int .i64 ((rd_T26 l0 x10_1).f2)] 26 (0, 0))) := ⟨(by rw [hw]; exact u10_0)⟩; have n2_ : Aside0 (Below w.heap.size w w15) := ⟨(by rw [hw]; exact u10_3)⟩; clear hw; clear HO_3; clear BK255; clear HB; have HO_3 := n0_; have BK255 := n1_; have HB := n2_; clear n0_ n1_ n2_; obtain ⟨Ao16, co16, eo16⟩ := Kd.R_slice HO_3.out; subst eo16; have p256 : 0 ≤ ((ji8) : Int) := of_decide_eq_true u10_4; have q256 : (ji8) < (x3_1.length : Int) := of_decide_eq_true u10_4; obtain ⟨ad256, e256, hx256_0, hx256_1, hx256_2⟩ := at_T26 (Kd.R_reads' HO_3.out).2.2 (ji8) p256 q256; cases e256; replace p256 := eq_true p256; replace q256 := eq_true q256; have hcz17_0 : w15.cell? ⟨gb255, 0, none⟩ = some (.int .u64 ((rd_T26 l0 x10_1).f0)) := (blk_cell BK255.out 0).trans rfl; have hcz17_1 : w15.cell? ⟨gb255, 1, none⟩ = some (.int .u64 ((rd_T26 l0 x10_1).f1)) := (blk_cell BK255.out 1).trans rfl; have hcz17_2 : w15.cell? ⟨gb255, 2, none⟩ = some (.int .i64 ((rd_T26 l0 x10_1).f2)) := (blk_cell BK255.out 2).trans rfl; have hfz17_0 := blk_frozen BK255.out 0; have hfz17_1 := blk_frozen BK255.out 1; have hfz17_2 := blk_frozen BK255.out 2; have p12 : 0 ≤ ((ji8) : Int) := of_decide_eq_true u10_4; have q12 : ((ji8) : Int) < ((x3_1.length : Int) : Int) := of_decide_eq_true u10_4; obtain ⟨go12, co12, eo12, gb12, gl12, cl12, HG12⟩ := Kd.R_form HO_3.out (by omega); (first | cases eo12 | (injection eo12 with ea_ en_ ec_; (first | subst ea_ | (injection ea_ with ea_; subst ea_)); subst ec_; clear en_)); have GB12 := Aside0.mk gb12; have GG12 := Aside0.mk HG12; clear gb12 gl12 HG12; (first | simp only [add_plain] at hx256_0 | skip); (first | simp only [add_plain] at hx256_1 | skip); (first | simp only [add_plain] at hx256_2 | skip); obtain ⟨ce12, hcl12, hM12, hcc12, hfr12⟩ := Kd.R_elem HO_3.out z26 ((ji8) : Int) p12 q12; obtain rfl := k26_openM hM12; have hx12_0 : w15.cell? ⟨go12, ((ji8) : Int).toNat * 3, none⟩ = some (.int .u64 ((rd_T26 x3_1 (ji8)).f0)) := hcc12 0 _ rfl; have hx12_1 : w15.cell? ⟨go12, ((ji8) : Int).toNat * 3 + 1, none⟩ = some (.int .u64 ((rd_T26 x3_1 (ji8)).f1)) := hcc12 1 _ rfl; have hx12_2 : w15.cell? ⟨go12, ((ji8) : Int).toNat * 3 + 2, none⟩ = some (.int .i64 ((rd_T26 x3_1 (ji8)).f2)) := hcc12 2 _ rfl; have hf12_0 : w15.frozen? ⟨go12, ((ji8) : Int).toNat * 3, none⟩ = false := hfr12 0; have hf12_1 : w15.frozen? ⟨go12, ((ji8) : Int).toNat * 3 + 1, none⟩ = false := hfr12 1; have hf12_2 : w15.frozen? ⟨go12, ((ji8) : Int).toNat * 3 + 2, none⟩ = false := hfr12 2; clear hcl12 hcc12 hfr12 hM12; replace p12 := eq_true p12; replace q12 := eq_true q12; have HX18 := Aside0.mk (show Kd.R k26 26 w15 w.heap.size (fun k_ => k_ ≠ gb255) (.slice (some ⟨go12, 0, none⟩) x3_1.length co16) x3_1 from u10_9); obtain ⟨ce18, hcl18, hM18, hcc18, hfr18⟩ := Kd.R_elem HX18.out z26 ((ji8) : Int) (of_decide_eq_true u10_4) (by have h_ : ((ji8) : Int) < ((x3_1.length : Int) : Int) := of_decide_eq_true u10_4; first | exact h_ | (have e_ := (Kd.R_reads' HO_3.out).1; omega) | simpa using h_); obtain rfl := k26_openM hM18; have HP18 := Kd.R_seg HX18.out ((ji8) : Int) (of_decide_eq_true u10_4) (by have h_ : ((ji8) : Int) < ((x3_1.length : Int) : Int) := of_decide_eq_true u10_4; first | exact h_ | (have e_ := (Kd.R_reads' HO_3.out).1; omega) | simpa using h_) (seg := [.int .u64 ((rd_T26 l0 x10_1).f1)]) (j := 1) hcl18 hcc18 (show 2 ≤ 3 from by decide) (x' := (⟨(rd_T26 x3_1 (ji8)).f0, (rd_T26 l0 x10_1).f1, (rd_T26 x3_1 (ji8)).f2⟩ : S26)) (k26_mkM _ _ _ (⟨(rd_T26 x3_1 (ji8)).f0, (rd_T26 l0 x10_1).f1, (rd_T26 x3_1 (ji8)).f2⟩ : S26) ) (fun _ hk => hk); have hx18_1 := hcc18 1 _ rfl; (try simp only [show (k26).sz = 3 from rfl, Nat.mul_one, Nat.add_zero] at hx18_1); have hf18_1 := hfr18 1; (try simp only [show (k26).sz = 3 from rfl, Nat.mul_one, Nat.add_zero] at hf18_1); clear hcl18 hcc18 hfr18 hM18) | ((with_reducible refine gate_store (t := 22) (p := 34) rfl ?_); (try (rw [drewN_self w15]; generalize hq_ : World.drewN w15 _ = w15; have n0_ := Aside0.mk (Kd.R_at hq_ HO_3.out); have n1_ := Aside0.mk (blk_at hq_ BK255.out); have n2_ := Aside0.mk (below_at hq_ HB.out); clear hq_ HO_3 BK255 HB; have HO_3 := n0_; have BK255 := n1_; have HB := n2_; clear n0_ n1_ n2_; (try (have HX18 := Aside0.mk (show Kd.R k26 26 w15 w.heap.size (fun k_ => k_ ≠ gb255) (.slice (some ⟨go12, 0, none⟩) x3_1.length co16) x3_1 from u10_9))); (try (obtain ⟨ce18, hcl18, hM18, hcc18, hfr18⟩ := Kd.R_elem HX18.out z26 ((ji8) : Int) (of_decide_eq_true u10_4) (by have h_ : ((ji8) : Int) < ((x3_1.length : Int) : Int) := of_decide_eq_true u10_4; first | exact h_ | (have e_ := (Kd.R_reads' HO_3.out).1; omega) | simpa using h_))); (try (obtain rfl := k26_openM hM18)); (try (have HP18 := Kd.R_seg HX18.out ((ji8) : Int) (of_decide_eq_true u10_4) (by have h_ : ((ji8) : Int) < ((x3_1.length : Int) : Int) := of_decide_eq_true u10_4; first | exact h_ | (have e_ := (Kd.R_reads' HO_3.out).1; omega) | simpa using h_) (seg := [.int .u64 ((rd_T26 l0 x10_1).f1)]) (j := 1) hcl18 hcc18 (show 2 ≤ 3 from by decide) (x' := (⟨(rd_T26 x3_1 (ji8)).f0, (rd_T26 l0 x10_1).f1, (rd_T26 x3_1 (ji8)).f2⟩ : S26)) (k26_mkM _ _ _ (⟨(rd_T26 x3_1 (ji8)).f0, (rd_T26 l0 x10_1).f1, (rd_T26 x3_1 (ji8)).f2⟩ : S26) ) (fun _ hk => hk))); (try (have hx18_1 := hcc18 1 _ rfl)); (try (try simp only [show (k26).sz = 3 from rfl, Nat.mul_one, Nat.add_zero] at hx18_1)); (try (have hf18_1 := hfr18 1)); (try (try simp only [show (k26).sz = 3 from rfl, Nat.mul_one, Nat.add_zero] at hf18_1)); (try (clear hcl18 hcc18 hfr18 hM18)))); refine store_event (t := 22) (p := 34) (v := ?vo_w19) (w1 := (w15.setCell ⟨go12, ((ji8) : Int).toNat * 3 + 1, none⟩ (.int .u64 ((rd_T26 l0 x10_1).f1)))) ?hg ?ho ?hn ?hr ?_; (case ho => rfl); (case hg => rfl); (case hn => rfl); (case hr => first | (go_simp; done) | (go_simp; rfl)); intro w19 hw; have hg : w15.grownBy w19 (some go12) := (by rw [hw]; exact HP18.2); have hp_ : Kd.R k26 26 w19 w.heap.size (fun k_ => k_ ≠ gb255) (.slice (some ⟨go12, 0, none⟩) x3_1.length co16) y257 := (by rw [hw, Ny257.out]; exact HP18.1); clear HP18; have n0_ := Aside0.mk (hp_); have n1_ := Aside0.mk (blk_grown (g := gb255) (o := .cells #[.int .u64 ((rd_T26 l0 x10_1).f0), .int .u64 ((rd_T26 l0 x10_1).f1), .int .i64 ((rd_T26 l0 x10_1).f2)] 26 (0, 0)) u10_20 hg (Kd.R_away HO_3.out (fun _ hk => hk))); have n2_ := Aside0.mk ((by rw [hw]; exact below_set (HB.out) GB12.out : Below w.heap.size w w19)); clear HO_3; clear BK255; clear HB; have HO_3 := n0_; have BK255 := n1_; have HB := n2_; clear n0_ n1_ n2_; clear hg hw hp_)))
    go_roundg k1
    case measure => have := HK1.out; omega
    case rel => exact ⟨(y257), (wrap64 (x10_1 + 1)), u10_15, H', ⟨by have := HK1.out; omega⟩, ⟨(by (with_reducible repeat (first | apply Kd.R_alloc | apply Kd.R_drewN | apply Kd.R_drew)); exact Kd.R_mono HO_3.out (fun _ hk => trivial))⟩, ⟨u10_3⟩⟩

/-! ### impl_SameOwners: function 38 -/
def impl_SameOwners.f (k : Nat) (l0 : List (S26)) (l1 : List (S26)) : Option (Bool) := (impl_areRanges.f k l0).bind fun t264 => (if t264 = true then ((impl_areRanges.f k l1).bind fun t265 => (if t265 = true then ((impl_joined.f k l0).bind fun t266 => ((impl_joined.f k l1).bind fun t269 => ((impl_Range_66.f k t266 t269).bind fun t272 => (some t272)))) else (some false))) else (some false))
theorem impl_SameOwners.mono : ∀ a0 a1 k, LeO (impl_SameOwners.f k a0 a1) (impl_SameOwners.f (k + 1) a0 a1) := by
  intro a0 a1 k
  unfold impl_SameOwners.f
  repeat' first
      | (with_reducible exact impl_Range_66.mono _ _ _)
      | (with_reducible exact impl_areRanges.mono _ _)
      | (with_reducible exact impl_joined.mono _ _)
      | (with_reducible exact LeO.refl _)
      | (with_reducible exact LeO.none _)
      | (with_reducible refine LeO.ite ?_ ?_)
      | (with_reducible refine LeO.bind ?_ (fun _ => ?_))
      | exact impl_Range_66.mono _ _ _
      | exact impl_areRanges.mono _ _
      | exact impl_joined.mono _ _
      | exact LeO.none _
      | refine LeO.ite ?_ ?_
      | refine LeO.bind ?_ (fun _ => ?_)
set_option maxHeartbeats 8000000 in
set_option maxRecDepth 100000 in
theorem impl_SameOwners.calls (k : Nat) (A0 : Option Addr) (c0 : Nat) (l0 : List (S26)) (A1 : Option Addr) (c1 : Nat) (l1 : List (S26)) (r : Bool) (w : World) (hr0 : Kd.C k26 w A0 l0.length l0) (hc0 : l0.length ≤ c0) (hr1 : Kd.C k26 w A1 l1.length l1) (hc1 : l1.length ≤ c1) (h : impl_SameOwners.f k l0 l1 = some r) :
    Calls Try.prog 38 #[.slice A0 l0.length c0, .slice A1 l1.length c1] w fun e w' => e = .returned (.bool r) ∧ Below w.heap.size w w' := by
  have HR0 := Aside0.mk hr0
  have HC0 := Aside0.mk hc0
  clear hr0 hc0
  have HR1 := Aside0.mk hr1
  have HC1 := Aside0.mk hc1
  clear hr1 hc1
  have HB := Aside0.mk (Below.refl w.heap.size w)
  have H : ((impl_areRanges.f k l0).bind fun t264 => (if t264 = true then ((impl_areRanges.f k l1).bind fun t265 => (if t265 = true then ((impl_joined.f k l0).bind fun t266 => ((impl_joined.f k l1).bind fun t269 => ((impl_Range_66.f k t266 t269).bind fun t272 => (some t272)))) else (some false))) else (some false))) = some r := h
  clear h
  replace H := Option.bind_eq_some_iff.mp H
  obtain ⟨t264, A30, H⟩ := H
  have A3 := Aside0.mk A30
  clear A30
  by_cases c4 : t264 = true
  rotate_left
  · replace c4 := Bool.eq_false_iff.mpr c4
    subst c4
    rw [if_neg (show ¬ (false = true) by decide)] at H
    obtain rfl := Option.some.inj H
    go_enter Try.func38, Try.ntmps38
    go_wp2_with (first | ((with_reducible refine gate_callee (f := 56) rfl ?_); refine goesL_ (some 6) rfl rfl Try.func56 (by kernel_rfl) rfl #[.slice A0 l0.length c0] rfl u10_6 ?_; (with_reducible refine (impl_areRanges.calls k _ _ l0 false _ ?side1 ?side2 A3.out).mono ?_); (case side1 => exact u10_11); (case side2 => exact HC0.out); rintro e w18 ⟨rfl, hb⟩; refine ⟨_, rfl, ?_⟩; have n0_ := Aside0.mk (below_step u10_1 hb); clear HB; have HB := n0_; clear n0_; (try clear hb); (try clear hb2); (try clear hk); (try clear hi)))
    go_ret
    exact ⟨by first | rfl | (simp [errW_none, errW_some] <;> rfl) | (simp [*, errW_none, errW_some] <;> rfl), u10_1⟩
  subst c4
  rw [if_pos rfl] at H
  replace H := Option.bind_eq_some_iff.mp H
  obtain ⟨t265, A50, H⟩ := H
  have A5 := Aside0.mk A50
  clear A50
  by_cases c6 : t265 = true
  rotate_left
  · replace c6 := Bool.eq_false_iff.mpr c6
    subst c6
    rw [if_neg (show ¬ (false = true) by decide)] at H
    obtain rfl := Option.some.inj H
    go_enter Try.func38, Try.ntmps38
    go_wp2_with (first | ((with_reducible refine gate_callee (f := 56) rfl ?_); refine goesL_ (some 6) rfl rfl Try.func56 (by kernel_rfl) rfl #[.slice A0 l0.length c0] rfl u10_6 ?_; (with_reducible refine (impl_areRanges.calls k _ _ l0 true _ ?side1 ?side2 A3.out).mono ?_); (case side1 => exact u10_11); (case side2 => exact HC0.out); rintro e w16 ⟨rfl, hb⟩; refine ⟨_, rfl, ?_⟩; have n0_ := Aside0.mk (below_step u10_1 hb); clear HB; have HB := n0_; clear n0_; (try clear hb); (try clear hb2); (try clear hk); (try clear hi)) | (go_at_call 56; (with_reducible refine (impl_areRanges.calls k _ _ l1 false _ ?side1 ?side2 A5.out).mono ?_); (case side1 => exact u10_13); (case side2 => exact HC1.out); rintro e w17 ⟨rfl, hb⟩; have n0_ := Aside0.mk (below_step u10_1 hb); clear HB; have HB := n0_; clear n0_; (try clear hb); (try clear hb2); (try clear hk); (try clear hi)))
    go_ret
    exact ⟨by first | rfl | (simp [errW_none, errW_some] <;> rfl) | (simp [*, errW_none, errW_some] <;> rfl), u10_1⟩
  subst c6
  rw [if_pos rfl] at H
  replace H := Option.bind_eq_some_iff.mp H
  obtain ⟨t266, A70, H⟩ := H
  have A7 := Aside0.mk A70
  clear A70
  replace H := Option.bind_eq_some_iff.mp H
  obtain ⟨t269, A80, H⟩ := H
  replace H : ((impl_Range_66.f k t266 t269).bind fun t272 => (some t272)) = some r := H
  have A8 := Aside0.mk A80
  clear A80
  replace H := Option.bind_eq_some_iff.mp H
  obtain ⟨t272, A90, H⟩ := H
  replace H : (some t272) = some r := H
  have A9 := Aside0.mk A90
  clear A90
  obtain rfl := Option.some.inj H
  go_enter Try.func38, Try.ntmps38
  go_wp2_with (first | ((with_reducible refine gate_callee (f := 56) rfl ?_); refine goesL_ (some 6) rfl rfl Try.func56 (by kernel_rfl) rfl #[.slice A0 l0.length c0] rfl u10_6 ?_; (with_reducible refine (impl_areRanges.calls k _ _ l0 true _ ?side1 ?side2 A3.out).mono ?_); (case side1 => exact u10_11); (case side2 => exact HC0.out); rintro e w10 ⟨rfl, hb⟩; refine ⟨_, rfl, ?_⟩; have n0_ := Aside0.mk (below_step u10_1 hb); clear HB; have HB := n0_; clear n0_; (try clear hb); (try clear hb2); (try clear hk); (try clear hi)) | (go_at_call 56; (with_reducible refine (impl_areRanges.calls k _ _ l1 true _ ?side1 ?side2 A5.out).mono ?_); (case side1 => exact u10_13); (case side2 => exact HC1.out); rintro e w11 ⟨rfl, hb⟩; have n0_ := Aside0.mk (below_step u10_1 hb); clear HB; have HB := n0_; clear n0_; (try clear hb); (try clear hb2); (try clear hk); (try clear hi)) | (go_at_call 67; (with_reducible refine (impl_joined.calls k _ _ l0 t266 _ ?side1 ?side2 A7.out).mono ?_); (case side1 => exact u10_7); (case side2 => exact HC0.out); rintro e w12 ⟨v267, rfl, ho0, hb⟩; have n0_ := Aside0.mk (Kd.R_lower ho0 (below_size u10_1)); have n1_ := Aside0.mk (below_step u10_1 hb); clear HB; have HO268 := n0_; have HB := n1_; clear n0_ n1_; (try clear hb); (try clear hb2); (try clear hk); (try clear hi); (try clear ho0)) | (go_at_call 67; (with_reducible refine (impl_joined.calls k _ _ l1 t269 _ ?side1 ?side2 A8.out).mono ?_); (case side1 => exact u10_13); (case side2 => exact HC1.out); rintro e w13 ⟨v270, rfl, ho0, hb⟩; have n0_ := Aside0.mk (Kd.R_elder' u10_23 (Kd.R_base ho0) hb); have n1_ := Aside0.mk (Kd.R_lower (Kd.R_new' ho0 (Kd.R_lt u10_23)) (below_size u10_1)); have n2_ := Aside0.mk (below_step u10_1 hb); clear HO268; clear HB; have HO268 := n0_; have HO271 := n1_; have HB := n2_; clear n0_ n1_ n2_; (try clear hb); (try clear hb2); (try clear hk); (try clear hi); (try clear ho0); obtain ⟨Ao14, co14, eo14⟩ := Kd.R_slice HO268.out; subst eo14; obtain ⟨Ao15, co15, eo15⟩ := Kd.R_slice HO271.out; subst eo15) | (go_at_call 66; (with_reducible refine (impl_Range_66.calls k _ _ t266 _ _ t269 t272 _ ?side1 ?side2 ?side3 ?side4 A9.out).mono ?_); (case side1 => exact (by repeat (first | exact (Kd.R_reads' HO268.out).2.2 | (with_reducible refine Kd.C_alloc ?_ _) | (with_reducible refine Kd.C_drewN ?_ _) | (with_reducible refine Kd.C_drew ?_)))); (case side2 => exact (Kd.R_reads' HO268.out).2.1); (case side3 => exact (by repeat (first | exact (Kd.R_reads' HO271.out).2.2 | (with_reducible refine Kd.C_alloc ?_ _) | (with_reducible refine Kd.C_drewN ?_ _) | (with_reducible refine Kd.C_drew ?_)))); (case side4 => exact (Kd.R_reads' HO271.out).2.1); rintro e w' ⟨rfl, ⟨nd, rfl⟩⟩))
  go_ret
  exact ⟨by first | rfl | (simp [errW_none, errW_some] <;> rfl) | (simp [*, errW_none, errW_some] <;> rfl), u10_1⟩

/-! ### impl_Joined: function 39 -/
def impl_Joined.f (k : Nat) (l0 : List (S26)) : Option ((List (S26))) := (impl_areRanges.f k l0).bind fun t273 => (if t273 = true then ((impl_joined.f k l0).bind fun t274 => (some t274)) else (some ([] : List (S26))))
theorem impl_Joined.mono : ∀ a0 k, LeO (impl_Joined.f k a0) (impl_Joined.f (k + 1) a0) := by
  intro a0 k
  unfold impl_Joined.f
  repeat' first
      | (with_reducible exact impl_areRanges.mono _ _)
      | (with_reducible exact impl_joined.mono _ _)
      | (with_reducible exact LeO.refl _)
      | (with_reducible exact LeO.none _)
      | (with_reducible refine LeO.ite ?_ ?_)
      | (with_reducible refine LeO.bind ?_ (fun _ => ?_))
      | exact impl_areRanges.mono _ _
      | exact impl_joined.mono _ _
      | exact LeO.none _
      | refine LeO.ite ?_ ?_
      | refine LeO.bind ?_ (fun _ => ?_)
set_option maxHeartbeats 8000000 in
set_option maxRecDepth 100000 in
theorem impl_Joined.calls (k : Nat) (A0 : Option Addr) (c0 : Nat) (l0 : List (S26)) (r : List (S26)) (w : World) (hr0 : Kd.C k26 w A0 l0.length l0) (hc0 : l0.length ≤ c0) (h : impl_Joined.f k l0 = some r) :
    Calls Try.prog 39 #[.slice A0 l0.length c0] w fun e w' => ∃ v0_ : Value, e = .returned (v0_) ∧ Kd.R k26 26 w' w.heap.size (fun _ => True) v0_ r ∧ Below w.heap.size w w' := by
  have HR0 := Aside0.mk hr0
  have HC0 := Aside0.mk hc0
  clear hr0 hc0
  have HB := Aside0.mk (Below.refl w.heap.size w)
  have H : ((impl_areRanges.f k l0).bind fun t273 => (if t273 = true then ((impl_joined.f k l0).bind fun t274 => (some t274)) else (some ([] : List (S26))))) = some r := h
  clear h
  replace H := Option.bind_eq_some_iff.mp H
  obtain ⟨t273, A20, H⟩ := H
  have A2 := Aside0.mk A20
  clear A20
  have H9 := Aside0.mk H
  clear H
  go_enter Try.func39, Try.ntmps39
  go_upto_if 5 with (first | ((with_reducible refine gate_callee (f := 56) rfl ?_); refine goesL_ (some 4) rfl rfl Try.func56 (by kernel_rfl) rfl #[.slice A0 l0.length c0] rfl u10_6 ?_; (with_reducible refine (impl_areRanges.calls k _ _ l0 t273 _ ?side1 ?side2 A2.out).mono ?_); (case side1 => exact u10_11); (case side2 => exact HC0.out); rintro e w3 ⟨rfl, hb⟩; refine ⟨_, rfl, ?_⟩; have n0_ := Aside0.mk (below_step u10_1 hb); clear HB; have HB := n0_; clear n0_; (try clear hb); (try clear hb2); (try clear hk); (try clear hi)))
  have H := H9.out
  clear H9
  by_cases c4 : t273 = true
  rotate_left
  · replace c4 := Bool.eq_false_iff.mpr c4
    subst c4
    rw [if_neg (show ¬ (false = true) by decide)] at H
    obtain rfl := Option.some.inj H
    go_wp2
    go_ret
    exact ⟨_, by first | rfl | (simp [errW_none, errW_some] <;> rfl) | (simp [*, errW_none, errW_some] <;> rfl), u10_14, u10_1⟩
  subst c4
  rw [if_pos rfl] at H
  replace H := Option.bind_eq_some_iff.mp H
  obtain ⟨t274, A50, H⟩ := H
  replace H : (some t274) = some r := H
  have A5 := Aside0.mk A50
  clear A50
  obtain rfl := Option.some.inj H
  go_wp2_with (first | ((with_reducible refine gate_callee (f := 67) rfl ?_); refine goesL_ (some 7) rfl rfl Try.func67 (by kernel_rfl) rfl #[.slice A0 l0.length c0] rfl u10_6 ?_; (with_reducible refine (impl_joined.calls k _ _ l0 t274 _ ?side1 ?side2 A5.out).mono ?_); (case side1 => exact u10_7); (case side2 => exact HC0.out); rintro e w6 ⟨v275, rfl, ho0, hb⟩; refine ⟨_, rfl, ?_⟩; have n0_ := Aside0.mk (Kd.R_lower ho0 (below_size u10_1)); have n1_ := Aside0.mk (below_step u10_1 hb); clear HB; have HO276 := n0_; have HB := n1_; clear n0_ n1_; (try clear hb); (try clear hb2); (try clear hk); (try clear hi); (try clear ho0)))
  go_ret
  exact ⟨_, by first | rfl | (simp [errW_none, errW_some] <;> rfl) | (simp [*, errW_none, errW_some] <;> rfl), (by (with_reducible repeat (first | apply Kd.R_alloc | apply Kd.R_drewN | apply Kd.R_drew)); exact HO276.out), u10_1⟩

/-! ### impl_Range_80: function 80 -/
def impl_Range_80.enc (x : S26) : List Value := [.int .u64 x.f0, .int .u64 x.f1, .int .i64 x.f2]
theorem impl_Range_80.flat : Go.Proofs.Ytfabcjkaoidmeaa.Slc.Flat k26 impl_Range_80.enc := ⟨fun w base ok x => k26_mkM w base ok x, fun h => k26_open h⟩
def impl_Range_80.f (l0 : List (S26)) (a1 : Int) (l2 : List (S26)) : Option (List (S26)) := if 0 ≤ a1 ∧ a1 ≤ (l0.length : Int) ∧ l2.length = 1 ∧ l0.length < 1000000 then some (l0.take a1.toNat ++ l2 ++ l0.drop a1.toNat) else none
theorem impl_Range_80.info : (Try.prog.info? 26).map (fun i => (i.zero, i.size, i.bytes)) = some (some (.agg #[.int .u64 0, .int .u64 0, .int .i64 0]), 3, 24) := by kernel_rfl
theorem impl_Range_80.size : (Try.prog.info? 26).map (·.size) = some 3 := by kernel_rfl
theorem impl_Range_80.sizeOf (w : World) : (Go.sizeOf 26).run Try.prog w = .ok 3 w := by kernel_rfl
set_option maxHeartbeats 2000000 in
set_option maxRecDepth 100000 in
theorem impl_Range_80.at_end (P0_ P2_ : Nat → Prop) (A0 : Option Addr) (n c0 : Nat) (l0 : List (S26)) (g2 : Nat) (c2 : Nat) (l2 : List (S26)) (w0 w : World) (hB : Below w0.heap.size w0 w) (ho0 : Kd.R k26 26 w w0.heap.size P0_ (.slice A0 n c0) l0) (hC2 : Kd.C k26 w (some ⟨g2, 0, none⟩) 1 l2) (hn : l0.length = n) (hl2 : l2.length = 1) (hc2 : 1 ≤ c2) (hl : n < 1000000) (hnc : n ≤ c0) (hm : c0 ≤ maxLen) :
    Calls Try.prog 80 #[.slice A0 n c0, .int .i64 (n : Int), .slice (some ⟨g2, 0, none⟩) 1 c2] w fun e w' => ∃ v0_ : Value, e = .returned (v0_) ∧ Kd.R k26 26 w' w0.heap.size (fun k_ => ((P0_ k_ ∨ P2_ k_) ∨ w.heap.size ≤ k_)) v0_ (l0 ++ l2) ∧ Below w0.heap.size w0 w' ∧ Kept w w' (fun k_ => P0_ k_ ∨ P2_ k_) := by
  have hown := ho0.1
  have HO := Aside0.mk (Kd.R_mono ho0 (ok' := fun k_ => ((P0_ k_ ∨ P2_ k_) ∨ w.heap.size ≤ k_)) (fun k hk => .inl (.inl hk)))
  have HB := Aside0.mk hB
  have HC2 := Aside0.mk hC2
  have HW := Aside0.mk hown
  have HL := Aside0.mk hl
  have HN := Aside0.mk hn
  unfold maxLen at hm
  have hm63 : c0 ≤ 9223372036854775807 := by omega
  clear ho0 hB hC2 hown hm
  have p1 : (n : Int) ≤ (n : Int) := Int.le_refl _
  cases A0 with
  | none =>
    go_enter Try.func80, Try.ntmps80
    go_wp2_with (first | ((with_reducible refine gate_dst (N := 25) rfl ?_); refine Kd.R_append_rows k26 (w0 := w0) w0.heap.size rfl (.tmp 23) (.tmp 24) 32 26 (.agg #[.int .u64 0, .int .u64 0, .int .i64 0]) 24 rfl Try.underlying32 impl_Range_80.info rfl (by decide) (by omega) _ l0 l2 _ _ _ (fun k_ => ((P0_ k_ ∨ P2_ k_) ∨ w.heap.size ≤ k_)) (fun _ => False) rfl rfl HO.out HC2.out (fun _ _ h => h) (fun _ h => h.elim) (fun _ hk => .inr hk) HB.out HB.out.size (by have := HL.out; have := HN.out; omega) ?_; intro v1 w1 ho hb hg hat; have R0 := Aside0.mk ho; have R1 := Aside0.mk hb; have R2 := Aside0.mk hg; clear ho hb hg hat))
    go_ret
    exact ⟨_, rfl, R0.out, R1.out, Kept.of_grown (W := w) R2.out (Kept.refl w _) (fun k hk => .inl (.inl (HW.out k hk)))⟩
  | some a =>
    obtain ⟨g, o, sp⟩ := a
    have hsp : o = 0 ∧ sp = none := by
      obtain ⟨_, inner, ⟨_, ho⟩, _⟩ := HO.out
      rcases ho with ⟨he, _⟩ | ⟨g', cap', cur, he, _⟩
      · cases he
      · injection he with e1 e2 e3
        injection e1 with e1
        injection e1 with e1 e2 e3
        exact ⟨e2, e3⟩
    obtain ⟨rfl, rfl⟩ := hsp
    by_cases hce : c0 = n
    · subst hce
      go_enter Try.func80, Try.ntmps80
      go_wp2_with (first | ((with_reducible refine gate_dst (N := 25) rfl ?_); refine Kd.R_append_rows k26 (w0 := w0) w0.heap.size rfl (.tmp 23) (.tmp 24) 32 26 (.agg #[.int .u64 0, .int .u64 0, .int .i64 0]) 24 rfl Try.underlying32 impl_Range_80.info rfl (by decide) (by omega) _ l0 l2 _ _ _ (fun k_ => ((P0_ k_ ∨ P2_ k_) ∨ w.heap.size ≤ k_)) (fun _ => False) rfl rfl HO.out HC2.out (fun _ _ h => h) (fun _ h => h.elim) (fun _ hk => .inr hk) HB.out HB.out.size (by have := HL.out; have := HN.out; omega) ?_; intro v1 w1 ho hb hg hat; have R0 := Aside0.mk ho; have R1 := Aside0.mk hb; have R2 := Aside0.mk hg; clear ho hb hg hat))
      go_ret
      exact ⟨_, rfl, R0.out, R1.out, Kept.of_grown (W := w) R2.out (Kept.refl w _) (fun k hk => .inl (.inl (HW.out k hk)))⟩
    have hlt : n < c0 := by omega
    go_enter Try.func80, Try.ntmps80
    go_wp2_with (first | ((with_reducible refine gate_dst (N := 25) rfl ?_); refine Kd.R_append_rows k26 (w0 := w0) w0.heap.size rfl (.tmp 23) (.tmp 24) 32 26 (.agg #[.int .u64 0, .int .u64 0, .int .i64 0]) 24 rfl Try.underlying32 impl_Range_80.info rfl (by decide) (by omega) _ l0 l2 _ _ _ (fun k_ => ((P0_ k_ ∨ P2_ k_) ∨ w.heap.size ≤ k_)) (fun _ => False) rfl rfl HO.out HC2.out (fun _ _ h => h) (fun _ h => h.elim) (fun _ hk => .inr hk) HB.out HB.out.size (by have := HL.out; have := HN.out; omega) ?_; intro v1 w1 ho hb hg hat; have R0 := Aside0.mk ho; have R1 := Aside0.mk hb; have R2 := Aside0.mk hg; clear ho hb hg hat))
    go_ret
    exact ⟨_, rfl, R0.out, R1.out, Kept.of_grown (W := w) R2.out (Kept.refl w _) (fun k hk => .inl (.inl (HW.out k hk)))⟩
set_option maxHeartbeats 2000000 in
set_option maxRecDepth 100000 in
theorem impl_Range_80.shift (P0_ P2_ : Nat → Prop) (g n c i : Nat) (l0 : List (S26)) (y : S26) (cur cur2 : Array Value) (g2 c2 : Nat) (w0 w : World) (hB : Below w0.heap.size w0 w) (hg : w0.heap.size ≤ g) (hP : P0_ g) (hb : w.heap[g]? = some (.cells cur 26 (0, 0))) (hs : cur.size = c * 3) (ht : cur.toList.take (n * 3) = Go.Proofs.Ytfabcjkaoidmeaa.Slc.cellsOf impl_Range_80.enc l0)
    (hn : l0.length = n) (hi : i < n) (hr : n + 1 ≤ c) (hm : c ≤ maxLen) (hb2 : w.heap[g2]? = some (.cells cur2 26 (0, 0))) (ht2 : cur2.toList.take 3 = impl_Range_80.enc y) (hne : g2 ≠ g) (hc2 : 1 ≤ c2) :
    Calls Try.prog 80 #[.slice (some ⟨g, 0, none⟩) n c, .int .i64 (i : Int), .slice (some ⟨g2, 0, none⟩) 1 c2] w fun e w' => ∃ v0_ : Value, e = .returned (v0_) ∧ Kd.R k26 26 w' w0.heap.size (fun k_ => ((P0_ k_ ∨ P2_ k_) ∨ w.heap.size ≤ k_)) v0_ (l0.take i ++ y :: l0.drop i) ∧ Below w0.heap.size w0 w' ∧ Kept w w' (fun k_ => P0_ k_ ∨ P2_ k_) := by
  have hsz3 : (k26).sz = 3 := rfl
  have hsize := impl_Range_80.size
  have hcl : (Go.Proofs.Ytfabcjkaoidmeaa.Slc.cellsOf impl_Range_80.enc l0).length = n * 3 := by rw [impl_Range_80.flat.cells_len, hn]; rfl
  have hyl : (impl_Range_80.enc y).length = 3 := impl_Range_80.flat.len y
  have hdl : ((Go.Proofs.Ytfabcjkaoidmeaa.Slc.cellsOf impl_Range_80.enc l0).drop (i * 3)).length = (n - i) * 3 := by rw [List.length_drop, hcl, Nat.sub_mul]
  have hc63 : c ≤ 9223372036854775807 := by unfold maxLen at hm; omega
  have hk2 : 3 ≤ cur2.size := by
    have := congrArg List.length ht2
    rw [List.length_take, hyl] at this
    simp at this
    omega
  have hcs : ∀ j v, (Go.Proofs.Ytfabcjkaoidmeaa.Slc.cellsOf impl_Range_80.enc l0)[j]? = some v → cur[j]? = some v := fun j v hj => by
    have hlt := (List.getElem?_eq_some_iff.1 hj).1
    rw [← ht, List.getElem?_take_of_lt (by omega), Array.getElem?_toList] at hj
    exact hj
  have hvs : ∀ j v, (impl_Range_80.enc y)[j]? = some v → cur2[j]? = some v := fun j v hj => by
    have hlt := (List.getElem?_eq_some_iff.1 hj).1
    rw [← ht2, List.getElem?_take_of_lt (by omega), Array.getElem?_toList] at hj
    exact hj
  have hov : ∀ lb cb, (callFunc 93 #[.slice (some ⟨g2, 0, none⟩) 1 c2, .slice (some ⟨g, (i + 1) * 3, none⟩) lb cb]).run Try.prog w = .ok (.value (.bool false)) w := fun lb cb => by
    rw [run_callFunc_extern Try.func93 (by kernel_rfl) (by kernel_rfl) (by kernel_rfl) (e := Extern.SlicesOverlaps.overlaps #[32, 32] #[4]) (by kernel_rfl),
      Lib.run_overlaps_apart w 32 4 26 Try.underlying32 3 impl_Range_80.sizeOf ⟨g2, 0, none⟩ ⟨g, (i + 1) * 3, none⟩ 1 c2 lb cb hne 26 26 cur2.size cur.size (by simp [World.shape?, hb2]) (by simp [World.shape?, hb]) (by omega) (blk_frozen hb2 0) (blk_frozen hb2 _)]
    rfl
  have hcp1 : ∀ ty dc sc, (Builtin.copy_ #[32, 32] ty #[.slice (some ⟨g, (i + 1) * 3, none⟩) (n - i) dc, .slice (some ⟨g, i * 3, none⟩) (n + 1 - i) sc]).run Try.prog w.drew = .ok (goInt (n - i : Nat)) (w.drew.setCells g ((i + 1) * 3) ((Go.Proofs.Ytfabcjkaoidmeaa.Slc.cellsOf impl_Range_80.enc l0).drop (i * 3))) := fun ty dc sc =>
    Go.Proofs.Ytfabcjkaoidmeaa.Slc.run_copy_k w.drew _ _ ty 26 3 g ((i + 1) * 3) _ dc ⟨g, i * 3, none⟩ _ sc _ (n - i) Try.underlying32 hsize u10_22 hdl
      (fun j v hj => by
        rw [List.getElem?_drop] at hj
        rw [Addr.add_lit]
        exact (blk_cell (w := w.drew) hb _).trans (hcs _ v hj))
      (fun j hj => by
        rw [hdl, Nat.sub_mul] at hj
        have : i * 3 ≤ n * 3 := Nat.mul_le_mul_right _ (by omega)
        have : (n + 1) * 3 ≤ c * 3 := Nat.mul_le_mul_right _ hr
        have hlt : (i + 1) * 3 + j < cur.size := by rw [hs]; omega
        rw [blk_cell (w := w.drew) hb, Array.getElem?_eq_getElem hlt]; rfl)
      (fun j _ => blk_frozen (w := w.drew) hb _) (fun v hv => impl_Range_80.flat.cells_one l0 v (List.mem_of_mem_drop hv))
  obtain ⟨W1, hW1⟩ : ∃ W1, W1 = w.drew.setCells g ((i + 1) * 3) ((Go.Proofs.Ytfabcjkaoidmeaa.Slc.cellsOf impl_Range_80.enc l0).drop (i * 3)) := ⟨_, rfl⟩
  rw [← hW1] at hcp1
  obtain ⟨cur1, hb1, hs1, ho1, hi1⟩ := Go.Proofs.Ytfabcjkaoidmeaa.Slc.setCells_blk g 26 ((Go.Proofs.Ytfabcjkaoidmeaa.Slc.cellsOf impl_Range_80.enc l0).drop (i * 3)) ((i + 1) * 3) w.drew cur hb
  rw [← hW1] at hb1
  have hb21 : W1.heap[g2]? = some (.cells cur2 26 (0, 0)) := by
    rw [hW1]; exact (Go.Proofs.Ytfabcjkaoidmeaa.Slc.setCells_other g _ _ w.drew g2 hne).trans hb2
  have hcp2 : ∀ ty dc, (Builtin.copy_ #[32, 32] ty #[.slice (some ⟨g, i * 3, none⟩) (n + 1 - i) dc, .slice (some ⟨g2, 0, none⟩) 1 c2]).run Try.prog W1 = .ok (goInt (1 : Nat)) (W1.setCells g (i * 3) (impl_Range_80.enc y)) := fun ty dc =>
    Go.Proofs.Ytfabcjkaoidmeaa.Slc.run_copy_k W1 _ _ ty 26 3 g (i * 3) _ dc ⟨g2, 0, none⟩ 1 c2 _ 1 Try.underlying32 hsize u10_22 (by rw [hyl])
      (fun j v hj => by
        have := (blk_cell hb21 j).trans (hvs _ v hj)
        rw [Addr.add_lit, Nat.zero_add]
        exact this)
      (fun j hj => by
        rw [hyl] at hj
        have : (i + 1) * 3 ≤ c * 3 := Nat.mul_le_mul_right _ (by omega)
        have hlt : i * 3 + j < cur1.size := by rw [hs1, hs]; omega
        rw [blk_cell hb1, Array.getElem?_eq_getElem hlt]; rfl)
      (fun j _ => blk_frozen hb1 _) (impl_Range_80.flat.one y)
  obtain ⟨W2, hW2⟩ : ∃ W2, W2 = W1.setCells g (i * 3) (impl_Range_80.enc y) := ⟨_, rfl⟩
  rw [← hW2] at hcp2
  obtain ⟨cur3, hb3, hs3, ho3, hi3⟩ := Go.Proofs.Ytfabcjkaoidmeaa.Slc.setCells_blk g 26 (impl_Range_80.enc y) (i * 3) W1 cur1 hb1
  rw [← hW2] at hb3
  have hR : Kd.R k26 26 W2 w0.heap.size (fun k_ => ((P0_ k_ ∨ P2_ k_) ∨ w.heap.size ≤ k_)) (.slice (some ⟨g, 0, none⟩) (n + 1) c) (l0.take i ++ y :: l0.drop i) := by
    refine impl_Range_80.flat.row hb3 hg (.inl (.inl hP)) (by simp; omega) hr hm (hs3.trans (hs1.trans hs)) (impl_Range_80.flat.ins_cells hn (by omega) (fun q hq => ?_) (fun j hj => ?_) (fun j hj => ?_))
    · rw [hsz3] at hq
      have : i * 3 ≤ n * 3 := Nat.mul_le_mul_right _ (by omega)
      rw [ho3 q (.inl hq), ho1 q (.inl (by omega)), ← ht, List.getElem?_take_of_lt (by omega), Array.getElem?_toList]
    · rw [hsz3] at hj ⊢
      have : (i + 1) * 3 ≤ c * 3 := Nat.mul_le_mul_right _ (by omega)
      exact hi3 j (by omega) (by rw [hs1, hs]; omega)
    · rw [hsz3] at hj ⊢
      have h1 : i * 3 ≤ n * 3 := Nat.mul_le_mul_right _ (by omega)
      have h2 : (n + 1) * 3 ≤ c * 3 := Nat.mul_le_mul_right _ hr
      rw [Nat.sub_mul] at hj
      rw [ho3 _ (.inr (by rw [hyl]; omega)), hi1 j (by rw [hdl, Nat.sub_mul]; omega) (by rw [hs]; omega), List.getElem?_drop]
  have hBel : Below w0.heap.size w0 W2 := by
    rw [hW2, hW1]
    exact Go.Proofs.Ytfabcjkaoidmeaa.Slc.below_setCells hg _ _ (Go.Proofs.Ytfabcjkaoidmeaa.Slc.below_setCells hg _ _ (below_drew hB))
  have hKp : Kept w W2 (fun k_ => P0_ k_ ∨ P2_ k_) := by
    rw [hW2, hW1]
    exact Go.Proofs.Ytfabcjkaoidmeaa.Slc.kept_setCells (.inl (.inl hP)) _ _ (Go.Proofs.Ytfabcjkaoidmeaa.Slc.kept_setCells (.inl (.inl hP)) _ _ (Kept.drew (Kept.refl w _)))
  have HR := Aside0.mk hR
  have HBe := Aside0.mk hBel
  have HKp := Aside0.mk hKp
  have hz2 : ¬ ((i : Int) = (n : Int)) := by omega
  have hw1 : IntKind.i64.wrap ((i : Int) + 1) = (i : Int) + 1 := by rw [IntKind.wrap_i64]; omega
  have hb1' : (0 : Int) ≤ (i : Int) + 1 := by omega
  have hin : i ≤ n := by omega
  have htn : ((i : Int) + 1).toNat = i + 1 := by omega
  have hb2' : ¬ (c = i + 1) := by omega
  have hb3' : (i : Int) ≤ (n : Int) + 1 := by omega
  have hb4 : ¬ (c = i) := by omega
  -- simp only [Nat.mul_one] at hov hcp1 hcp2
  clear hR hBel hKp hb hs ht hb2 ht2 hcs hvs hW1 hb1 hs1 ho1 hi1 hb21 hW2 hb3 hs3 ho3 hi3 hcl hyl hdl hB hg hP hm hk2 hsz3 hsize hn hne
  go_enter Try.func80, Try.ntmps80
  go_wp2_with (simp only [hov])
  go_region_law (refine Go.Proofs.Ytfabcjkaoidmeaa.Slc.step_copy rfl _ _ 32 32 rfl _ _ (by simp [Act.eval, Act.put]) (by simp [Act.eval, Act.put]) (hcp1 _ _ _) ?_)
  go_wp2_with (at_builtin; refine Go.Proofs.Ytfabcjkaoidmeaa.Slc.list_copy _ rfl _ _ 32 32 rfl _ _ rfl rfl (hcp2 _ _) ?_)
  go_ret
  exact ⟨_, rfl, HR.out, HBe.out, HKp.out⟩
theorem impl_Range_80.parts : ∃ i0, Try.prog.info? 26 = some i0 ∧ i0.zero = some (.agg #[.int .u64 0, .int .u64 0, .int .i64 0]) ∧ i0.size = 3 ∧ i0.bytes = 24 := by
  obtain ⟨i0, h, h2⟩ := Option.map_eq_some_iff.1 impl_Range_80.info
  simp only [Prod.mk.injEq] at h2
  exact ⟨i0, h, h2.1, h2.2.1, h2.2.2⟩
set_option maxHeartbeats 2000000 in
set_option maxRecDepth 100000 in
theorem impl_Range_80.grow (P0_ P2_ : Nat → Prop) (g n i : Nat) (l0 : List (S26)) (y : S26) (cur cur2 : Array Value) (g2 c2 : Nat) (w0 w : World) (hB : Below w0.heap.size w0 w) (hb : w.heap[g]? = some (.cells cur 26 (0, 0))) (hs : cur.size = n * 3) (ht : cur.toList.take (n * 3) = Go.Proofs.Ytfabcjkaoidmeaa.Slc.cellsOf impl_Range_80.enc l0)
    (hn : l0.length = n) (hi : i < n) (hl : n < 1000000) (hb2 : w.heap[g2]? = some (.cells cur2 26 (0, 0))) (ht2 : cur2.toList.take 3 = impl_Range_80.enc y) (hc2 : 1 ≤ c2) :
    Calls Try.prog 80 #[.slice (some ⟨g, 0, none⟩) n n, .int .i64 (i : Int), .slice (some ⟨g2, 0, none⟩) 1 c2] w fun e w' => ∃ v0_ : Value, e = .returned (v0_) ∧ Kd.R k26 26 w' w0.heap.size (fun k_ => ((P0_ k_ ∨ P2_ k_) ∨ w.heap.size ≤ k_)) v0_ (l0.take i ++ y :: l0.drop i) ∧ Below w0.heap.size w0 w' ∧ Kept w w' (fun k_ => P0_ k_ ∨ P2_ k_) := by
  have hsz3 : (k26).sz = 3 := rfl
  have hsize := impl_Range_80.size
  obtain ⟨i0, hi0, hz0, hzs, hzb⟩ := impl_Range_80.parts
  have hcl : (Go.Proofs.Ytfabcjkaoidmeaa.Slc.cellsOf impl_Range_80.enc l0).length = n * 3 := by rw [impl_Range_80.flat.cells_len, hn]; rfl
  have hyl : (impl_Range_80.enc y).length = 3 := impl_Range_80.flat.len y
  have hdl : ((Go.Proofs.Ytfabcjkaoidmeaa.Slc.cellsOf impl_Range_80.enc l0).drop (i * 3)).length = (n - i) * 3 := by rw [List.length_drop, hcl, Nat.sub_mul]
  have hin3 : i * 3 ≤ n * 3 := Nat.mul_le_mul_right _ (by omega)
  have htl : ((Go.Proofs.Ytfabcjkaoidmeaa.Slc.cellsOf impl_Range_80.enc l0).take (i * 3)).length = i * 3 := by rw [List.length_take, hcl]; omega
  have hgw : g < w.heap.size := blk_lt hb
  have hg2w : g2 < w.heap.size := blk_lt hb2
  have hcs : ∀ j v, (Go.Proofs.Ytfabcjkaoidmeaa.Slc.cellsOf impl_Range_80.enc l0)[j]? = some v → cur[j]? = some v := fun j v hj => by
    have hlt := (List.getElem?_eq_some_iff.1 hj).1
    rw [← ht, List.getElem?_take_of_lt (by omega), Array.getElem?_toList] at hj
    exact hj
  have hvs : ∀ j v, (impl_Range_80.enc y)[j]? = some v → cur2[j]? = some v := fun j v hj => by
    have hlt := (List.getElem?_eq_some_iff.1 hj).1
    rw [← ht2, List.getElem?_take_of_lt (by omega), Array.getElem?_toList] at hj
    exact hj
  have hold : (Builtin.firstCells i0.size i (.slice (some ⟨g, 0, none⟩) i n)).run Try.prog w.drew = .ok ((Go.Proofs.Ytfabcjkaoidmeaa.Slc.cellsOf impl_Range_80.enc l0).take (i * 3)).toArray w.drew := by
    rw [hzs]
    exact run_firstCells_some w.drew 3 i ⟨g, 0, none⟩ i n _ htl (fun j v hj => by
      have hj' : (Go.Proofs.Ytfabcjkaoidmeaa.Slc.cellsOf impl_Range_80.enc l0)[j]? = some v := by
        rw [List.getElem?_take] at hj
        split at hj
        · exact hj
        · cases hj
      rw [Addr.add_lit, Nat.zero_add]
      exact (blk_cell (w := w.drew) hb j).trans (hcs j v hj'))
  have hik : i + (n + 1 - i) = n + 1 := by omega
  have hkk : (n : Int) + 1 - (i : Int) = ((n + 1 - i : Nat) : Int) := by omega
  obtain ⟨G, hG⟩ : ∃ G, G = grownCap w (n + 1) n 26 := ⟨_, rfl⟩
  obtain ⟨ROW, hROW⟩ : ∃ ROW : Array Value, ROW = ((Go.Proofs.Ytfabcjkaoidmeaa.Slc.cellsOf impl_Range_80.enc l0).take (i * 3)).toArray ++ Builtin.zeroCells (.agg #[.int .u64 0, .int .u64 0, .int .i64 0] : Value).cells (n + 1 - i) ++ Builtin.zeroCells (.agg #[.int .u64 0, .int .u64 0, .int .i64 0] : Value).cells (G - (n + 1)) := ⟨_, rfl⟩
  have hrz : ∀ ty, (Builtin.append_ #[32, 3] ty #[.slice (some ⟨g, 0, none⟩) i n, .int .i64 ((n : Int) + 1 - (i : Int))]).run Try.prog w = .ok (.slice (some ⟨w.heap.size, 0, none⟩) (n + 1) G) (w.drew.alloc (.cells ROW 26)) := fun ty => by
    have h := Lib.run_append_grow_zeros (P := Try.prog) w 32 3 ty 26 i0 _ .i64 .i64 Try.underlying32 Try.underlying3 hi0 hz0 (some ⟨g, 0, none⟩) i n _ hold (n + 1 - i) (by omega) (by omega) (by omega) (by omega) (by rw [hzb]; omega) (by rw [hzb, hik]; exact growslice_fits (by omega) (by omega))
    rw [hik] at h
    rw [hkk, hROW, hG]
    exact h
  have hGn : n + 1 ≤ G := by rw [hG]; exact grownCap_ge w _ _ _
  have hGm : G ≤ maxLen := by rw [hG]; exact grownCap_le_maxLen w (n + 1) n 26 (by unfold maxLen; omega)
  have hRl : ROW.size = G * 3 := by
    have e1 : ∀ k, (Builtin.zeroCells (.agg #[.int .u64 0, .int .u64 0, .int .i64 0] : Value).cells k).size = k * 3 := fun k => by simp [Builtin.zeroCells, Value.cells]; try omega
    rw [hROW, Array.size_append, Array.size_append, e1, e1]
    simp only [List.size_toArray, htl]
    rw [← Nat.add_mul, ← Nat.add_mul]
    congr 1; omega
  have hR0 : ∀ q, q < i * 3 → ROW[q]? = (Go.Proofs.Ytfabcjkaoidmeaa.Slc.cellsOf impl_Range_80.enc l0)[q]? := fun q hq => by
    rw [hROW, Array.append_assoc, Array.getElem?_append_left (by simp only [List.size_toArray, htl]; exact hq), List.getElem?_toArray, List.getElem?_take_of_lt hq]
  obtain ⟨W1, hW1⟩ : ∃ W1, W1 = w.drew.alloc (.cells ROW 26) := ⟨_, rfl⟩
  rw [← hW1] at hrz
  have hbN : W1.heap[w.heap.size]? = some (.cells ROW 26 (0, 0)) := by rw [hW1]; exact Array.getElem?_push_size
  have hkeep : ∀ k, k < w.heap.size → W1.heap[k]? = w.heap[k]? := fun k hk => by rw [hW1]; show (w.heap.push _)[k]? = _; rw [Array.getElem?_push, if_neg (Nat.ne_of_lt hk)]
  have hb2N : W1.heap[g2]? = some (.cells cur2 26 (0, 0)) := (hkeep g2 hg2w).trans hb2
  have hB1 : Below w0.heap.size w0 W1 := by rw [hW1]; exact below_alloc (below_drew hB) _
  have hK1 : Kept w W1 (fun k_ => P0_ k_ ∨ P2_ k_) := by rw [hW1]; exact (Kept.drew (Kept.refl w _)).alloc _
  have hwN : w0.heap.size ≤ w.heap.size := hB.size
  obtain ⟨NB, hNB⟩ : ∃ NB, NB = w.heap.size := ⟨_, rfl⟩
  have hgN : g ≠ NB := by omega
  have hg2N : g2 ≠ NB := by omega
  have hcpA : ∀ ty dc, (Builtin.copy_ #[32, 32] ty #[.slice (some ⟨NB, i * 3, none⟩) (n + 1 - i) dc, .slice (some ⟨g2, 0, none⟩) 1 c2]).run Try.prog W1 = .ok (goInt (1 : Nat)) (W1.setCells NB (i * 3) (impl_Range_80.enc y)) := fun ty dc =>
    Go.Proofs.Ytfabcjkaoidmeaa.Slc.run_copy_k W1 _ _ ty 26 3 NB (i * 3) _ dc ⟨g2, 0, none⟩ 1 c2 _ 1 Try.underlying32 hsize u10_22 (by rw [hyl])
      (fun j v hj => by
        rw [Addr.add_lit, Nat.zero_add]
        exact (blk_cell hb2N j).trans (hvs _ v hj))
      (fun j hj => by
        rw [hyl] at hj
        have : (i + 1) * 3 ≤ G * 3 := Nat.mul_le_mul_right _ (by omega)
        have hlt : i * 3 + j < ROW.size := by omega
        rw [hNB, blk_cell hbN, Array.getElem?_eq_getElem hlt]; rfl)
      (fun j _ => by rw [hNB]; exact blk_frozen hbN _) (impl_Range_80.flat.one y)
  rw [← hNB] at hbN hrz
  obtain ⟨W2, hW2⟩ : ∃ W2, W2 = W1.setCells NB (i * 3) (impl_Range_80.enc y) := ⟨_, rfl⟩
  rw [← hW2] at hcpA
  obtain ⟨cur3, hb3, hs3, ho3, hi3⟩ := Go.Proofs.Ytfabcjkaoidmeaa.Slc.setCells_blk NB 26 (impl_Range_80.enc y) (i * 3) W1 ROW hbN
  rw [← hW2] at hb3
  have hb31 : W2.heap[g]? = some (.cells cur 26 (0, 0)) := by
    rw [hW2]; exact (Go.Proofs.Ytfabcjkaoidmeaa.Slc.setCells_other NB _ _ W1 g hgN).trans ((hkeep g hgw).trans hb)
  have hcpB : ∀ ty dc sc, (Builtin.copy_ #[32, 32] ty #[.slice (some ⟨NB, (i + 1) * 3, none⟩) (n - i) dc, .slice (some ⟨g, i * 3, none⟩) (n - i) sc]).run Try.prog W2.drew = .ok (goInt (n - i : Nat)) (W2.drew.setCells NB ((i + 1) * 3) ((Go.Proofs.Ytfabcjkaoidmeaa.Slc.cellsOf impl_Range_80.enc l0).drop (i * 3))) := fun ty dc sc =>
    Go.Proofs.Ytfabcjkaoidmeaa.Slc.run_copy_k W2.drew _ _ ty 26 3 NB ((i + 1) * 3) _ dc ⟨g, i * 3, none⟩ _ sc _ (n - i) Try.underlying32 hsize u10_22 hdl
      (fun j v hj => by
        rw [List.getElem?_drop] at hj
        rw [Addr.add_lit]
        exact (blk_cell (w := W2.drew) hb31 _).trans (hcs _ v hj))
      (fun j hj => by
        rw [hdl, Nat.sub_mul] at hj
        have : (n + 1) * 3 ≤ G * 3 := Nat.mul_le_mul_right _ hGn
        have hlt : (i + 1) * 3 + j < cur3.size := by rw [hs3, hRl]; omega
        rw [blk_cell (w := W2.drew) hb3, Array.getElem?_eq_getElem hlt]; rfl)
      (fun j _ => blk_frozen (w := W2.drew) hb3 _) (fun v hv => impl_Range_80.flat.cells_one l0 v (List.mem_of_mem_drop hv))
  obtain ⟨W3, hW3⟩ : ∃ W3, W3 = W2.drew.setCells NB ((i + 1) * 3) ((Go.Proofs.Ytfabcjkaoidmeaa.Slc.cellsOf impl_Range_80.enc l0).drop (i * 3)) := ⟨_, rfl⟩
  rw [← hW3] at hcpB
  obtain ⟨cur4, hb4, hs4, ho4, hi4⟩ := Go.Proofs.Ytfabcjkaoidmeaa.Slc.setCells_blk NB 26 ((Go.Proofs.Ytfabcjkaoidmeaa.Slc.cellsOf impl_Range_80.enc l0).drop (i * 3)) ((i + 1) * 3) W2.drew cur3 hb3
  rw [← hW3] at hb4
  have hR : Kd.R k26 26 W3 w0.heap.size (fun k_ => ((P0_ k_ ∨ P2_ k_) ∨ w.heap.size ≤ k_)) (.slice (some ⟨NB, 0, none⟩) (n + 1) G) (l0.take i ++ y :: l0.drop i) := by
    refine impl_Range_80.flat.row hb4 (by omega) (.inr (by omega)) (by simp; omega) hGn hGm (hs4.trans (hs3.trans hRl)) (impl_Range_80.flat.ins_cells hn (by omega) (fun q hq => ?_) (fun j hj => ?_) (fun j hj => ?_))
    · rw [hsz3] at hq
      rw [ho4 q (.inl (by omega)), ho3 q (.inl hq), hR0 q hq]
    · rw [hsz3] at hj ⊢
      have : (i + 1) * 3 ≤ G * 3 := Nat.mul_le_mul_right _ (by omega)
      rw [ho4 _ (.inl (by omega))]
      exact hi3 j (by omega) (by rw [hRl]; omega)
    · rw [hsz3] at hj ⊢
      have h2 : (n + 1) * 3 ≤ G * 3 := Nat.mul_le_mul_right _ hGn
      rw [Nat.sub_mul] at hj
      rw [hi4 j (by rw [hdl, Nat.sub_mul]; omega) (by rw [hs3, hRl]; omega), List.getElem?_drop]
  have hBel : Below w0.heap.size w0 W3 := by
    rw [hW3, hW2]
    exact Go.Proofs.Ytfabcjkaoidmeaa.Slc.below_setCells (by omega) _ _ (below_drew (Go.Proofs.Ytfabcjkaoidmeaa.Slc.below_setCells (by omega) _ _ hB1))
  have hKp : Kept w W3 (fun k_ => P0_ k_ ∨ P2_ k_) := by
    rw [hW3, hW2]
    exact Go.Proofs.Ytfabcjkaoidmeaa.Slc.kept_setCells (.inr (by omega)) _ _ (Kept.drew (Go.Proofs.Ytfabcjkaoidmeaa.Slc.kept_setCells (.inr (by omega)) _ _ hK1))
  have HR := Aside0.mk hR
  have HBe := Aside0.mk hBel
  have HKp := Aside0.mk hKp
  have hz2 : ¬ ((i : Int) = (n : Int)) := by omega
  have hz3 : (n : Int) < (n : Int) + 1 := by omega
  have hG63 : G ≤ 9223372036854775807 := by unfold maxLen at hGm; omega
  have hGi : ¬ (G = i) := by omega
  have hGim : ¬ (G = i + 1) := by omega
  have hci : ¬ (n = i) := by omega
  have hw1 : IntKind.i64.wrap ((i : Int) + 1) = (i : Int) + 1 := by rw [IntKind.wrap_i64]; omega
  have hb1 : (0 : Int) ≤ (i : Int) + 1 := by omega
  have hin : i ≤ n := by omega
  have htn : ((i : Int) + 1).toNat = i + 1 := by omega
  have hb3' : (i : Int) ≤ (n : Int) := by omega
  -- simp only [Nat.mul_one] at hrz hcpA hcpB
  clear hR hBel hKp hb hs ht hb2 ht2 hcs hvs hW1 hW2 hW3 hb3 hs3 ho3 hi3 hb4 hs4 ho4 hi4 hcl hyl hdl hB hsz3 hsize hi0 hz0 hzs hzb hold hROW hG hRl hR0 hbN hkeep hb2N hB1 hK1 hb31 hGm hkk hik hin3 htl hgw hg2w hgN hg2N hwN hNB hn
  go_enter Try.func80, Try.ntmps80
  go_wp2_with (first
    | (at_builtin; refine Lib.wpList_append_run _ rfl _ _ _ _ rfl _ _ rfl rfl _ _ (hrz _) ?_)
    | (at_builtin; refine Go.Proofs.Ytfabcjkaoidmeaa.Slc.list_copy _ rfl _ _ 32 32 rfl _ _ rfl rfl (hcpA _ _) ?_))
  go_region_law (refine Go.Proofs.Ytfabcjkaoidmeaa.Slc.step_copy rfl _ _ 32 32 rfl _ _ (by simp [Act.eval, Act.put]) (by simp [Act.eval, Act.put]) (hcpB _ _ _) ?_)
  go_wp2
  go_ret
  exact ⟨_, rfl, HR.out, HBe.out, HKp.out⟩
set_option maxHeartbeats 2000000 in
theorem impl_Range_80.calls (P0_ : Nat → Prop) (u9000_ : Value) (l0 : List (S26)) (a1 : Int) (P2_ : Nat → Prop) (u9001_ : Value) (l2 : List (S26)) (r : List (S26)) (w0 w : World) (hB : Below w0.heap.size w0 w) (ho0 : Kd.R k26 26 w w0.heap.size P0_ u9000_ l0) (hp0_2 : ∀ k_, P0_ k_ → ¬ P2_ k_) (ho2 : Kd.R k26 26 w w0.heap.size P2_ u9001_ l2) (hp2_0 : ∀ k_, P2_ k_ → ¬ P0_ k_) (h : impl_Range_80.f l0 a1 l2 = some r) :
    Calls Try.prog 80 #[u9000_, .int .i64 a1, u9001_] w fun e w' => ∃ v0_ : Value, e = .returned (v0_) ∧ Kd.R k26 26 w' w0.heap.size (fun k_ => ((P0_ k_ ∨ P2_ k_) ∨ w.heap.size ≤ k_)) v0_ r ∧ Below w0.heap.size w0 w' ∧ Kept w w' (fun k_ => P0_ k_ ∨ P2_ k_) := by
  unfold impl_Range_80.f at h
  by_cases hc : 0 ≤ a1 ∧ a1 ≤ (l0.length : Int) ∧ l2.length = 1 ∧ l0.length < 1000000
  rotate_left
  · rw [if_neg hc] at h; cases h
  rw [if_pos hc] at h
  obtain rfl := Option.some.inj h
  clear h
  obtain ⟨h0, hle, hl2, hl⟩ := hc
  obtain ⟨i, rfl⟩ := Int.eq_ofNat_of_zero_le h0
  rw [Int.toNat_natCast]
  match l2, hl2, ho2 with
  | [y], hl2, ho2 =>
  obtain ⟨g2, c2, cur2, rfl, _, hP2, hb2, hc2, _, _, ht2⟩ := impl_Range_80.flat.block ho2 (by simp)
  have ht2' : cur2.toList.take (k26).sz = impl_Range_80.enc y := by simpa [Go.Proofs.Ytfabcjkaoidmeaa.Slc.cellsOf] using ht2
  by_cases hi : i < l0.length
  rotate_left
  · have hin : i = l0.length := by omega
    subst hin
    obtain ⟨A0, c0, rfl, hc0, _⟩ := Kd.R_reads ho0
    obtain ⟨hnl, hle2, hC2⟩ := Kd.R_reads' ho2
    have hm : c0 ≤ maxLen := by
      obtain ⟨_, inner, ⟨_, ho⟩, _⟩ := ho0
      rcases ho with ⟨he, _⟩ | ⟨g', cap', cur, he, _, _, _, hm, _⟩
      · injection he with e1 e2 e3; rw [e3]; exact Nat.zero_le _
      · injection he with e1 e2 e3; rw [e3]; exact hm
    exact (impl_Range_80.at_end P0_ P2_ A0 l0.length c0 l0 g2 c2 [y] w0 w hB ho0 hC2 rfl rfl hc2 hl hc0 hm).mono fun e w' h => by simpa using h
  obtain ⟨g, c, cur, rfl, hg, hP, hb, hcap, hm, hs, ht⟩ := impl_Range_80.flat.block ho0 (by omega)
  have hne : g2 ≠ g := fun e => hp0_2 g hP (e ▸ hP2)
  by_cases hr : l0.length + 1 ≤ c
  · exact (impl_Range_80.shift P0_ P2_ g l0.length c i l0 y cur cur2 g2 c2 w0 w hB hg hP hb hs ht rfl hi hr hm hb2 ht2' hne hc2).mono fun e w' h => by simpa using h
  have hcn : c = l0.length := by omega
  subst hcn
  exact (impl_Range_80.grow P0_ P2_ g l0.length i l0 y cur cur2 g2 c2 w0 w hB hb hs ht rfl hi hl hb2 ht2' hc2).mono fun e w' h => by simpa using h


/-! ### impl_splitRange: function 68 -/
def impl_splitRange.j0 : Nat → List (S26) → Int → Int → Bool → Option ((List (S26)) × Bool)
  | 0, _, _, _, _ => none
  | k + 1, x0, x1, x2, x23 => if x23 = true then (some (([] : List (S26)), false)) else ((impl_findRange.f x0 x1).bind fun t279 => (if 0 ≤ t279 then (if t279 < (x0.length : Int) then (if ((rd_T26 x0 t279).f0) = x1 then (some (([] : List (S26)), false)) else ((some (([] : List (S26)) : List (S26))).bind fun y282 => (if y282.length + x0.length < 5864062014805 then ((some (y282 ++ x0 : List (S26))).bind fun y285 => (if t279 < (y285.length : Int) then ((impl_Range_80.f (y285.set (t279 : Int).toNat (⟨(rd_T26 y285 t279).f0, IntKind.u64.wrap (x1 - 1), (rd_T26 y285 t279).f2⟩ : S26)) (wrap64 (t279 + 1)) (([(⟨x1, (rd_T26 x0 t279).f1, x2⟩ : S26)] : List (S26)))).bind fun t292 => (some (t292, true))) else (none))) else (none)))) else (none)) else (none)))
def impl_splitRange.f (k : Nat) (l0 : List (S26)) (a1 : Int) (a2 : Int) : Option ((List (S26)) × Bool) := (impl_areRanges.f k l0).bind fun t277 => (if t277 = true then ((impl_isGroupId.f a2).bind fun t278 => (if t278 = true then (impl_splitRange.j0 k l0 a1 a2 ((l0.length : Int) == 24)) else (impl_splitRange.j0 k l0 a1 a2 true))) else (impl_splitRange.j0 k l0 a1 a2 true))
theorem impl_splitRange.mono_l : ∀ k, (∀ y0 y1 y2 y3, LeO (impl_splitRange.j0 k y0 y1 y2 y3) (impl_splitRange.j0 (k + 1) y0 y1 y2 y3))
  | 0 => fun _ _ _ _ r h => by simp [impl_splitRange.j0] at h
  | k + 1 => by
    have ih0 := impl_splitRange.mono_l k
    · intro y0 y1 y2 y3
      unfold impl_splitRange.j0
      repeat' first
      | (with_reducible exact ih0 _ _ _ _)
      | (with_reducible exact impl_areRanges.mono _ _)
      | (with_reducible exact LeO.refl _)
      | (with_reducible exact LeO.none _)
      | (with_reducible refine LeO.ite ?_ ?_)
      | (with_reducible refine LeO.bind ?_ (fun _ => ?_))
      | exact ih0 _ _ _ _
      | exact impl_areRanges.mono _ _
      | exact LeO.none _
      | refine LeO.ite ?_ ?_
      | refine LeO.bind ?_ (fun _ => ?_)
theorem impl_splitRange.mono : ∀ a0 a1 a2 k, LeO (impl_splitRange.f k a0 a1 a2) (impl_splitRange.f (k + 1) a0 a1 a2) := by
  intro a0 a1 a2 k
  have ih0 := impl_splitRange.mono_l k
  unfold impl_splitRange.f
  repeat' first
      | (with_reducible exact ih0 _ _ _ _)
      | (with_reducible exact impl_areRanges.mono _ _)
      | (with_reducible exact LeO.refl _)
      | (with_reducible exact LeO.none _)
      | (with_reducible refine LeO.ite ?_ ?_)
      | (with_reducible refine LeO.bind ?_ (fun _ => ?_))
      | exact ih0 _ _ _ _
      | exact impl_areRanges.mono _ _
      | exact LeO.none _
      | refine LeO.ite ?_ ?_
      | refine LeO.bind ?_ (fun _ => ?_)
set_option maxHeartbeats 8000000 in
set_option maxRecDepth 100000 in
theorem impl_splitRange.calls (k : Nat) (A0 : Option Addr) (c0 : Nat) (l0 : List (S26)) (a1 : Int) (a2 : Int) (r1 : List (S26)) (r2 : Bool) (w : World) (hr0 : Kd.C k26 w A0 l0.length l0) (hc0 : l0.length ≤ c0) (h : impl_splitRange.f k l0 a1 a2 = some (r1, r2)) :
    Calls Try.prog 68 #[.slice A0 l0.length c0, .int .u64 a1, .int .i64 a2] w fun e w' => ∃ v0_ : Value, e = .returned (.tuple #[v0_, .bool r2]) ∧ Kd.R k26 26 w' w.heap.size (fun _ => True) v0_ r1 ∧ Below w.heap.size w w' := by
  have hu26 := Try.underlying26
  have HR0 := Aside0.mk hr0
  have HC0 := Aside0.mk hc0
  clear hr0 hc0
  have HB := Aside0.mk (Below.refl w.heap.size w)
  have H : ((impl_areRanges.f k l0).bind fun t277 => (if t277 = true then ((impl_isGroupId.f a2).bind fun t278 => (if t278 = true then (impl_splitRange.j0 k l0 a1 a2 ((l0.length : Int) == 24)) else (impl_splitRange.j0 k l0 a1 a2 true))) else (impl_splitRange.j0 k l0 a1 a2 true))) = some (r1, r2) := h
  clear h
  have HC4 := Aside0.mk H
  clear H
  go_enter Try.func68, Try.ntmps68
  go_upto_region 1 with (fail)
  go_cut [23] (fun v23 wc => ∃ (kq : Nat) (x23_3 : Bool), v23 = .bool x23_3 ∧ Aside0 (impl_splitRange.j0 kq l0 a1 a2 x23_3 = some (r1, r2)) ∧ Aside0 (kq ≤ k) ∧ Aside0 (Below w.heap.size w wc))
  case first =>
    have H := HC4.out
    clear HC4
    replace H := Option.bind_eq_some_iff.mp H
    obtain ⟨t277, A50, H⟩ := H
    have A5 := Aside0.mk A50
    clear A50
    by_cases c6 : t277 = true
    rotate_left
    · replace c6 := Bool.eq_false_iff.mpr c6
      subst c6
      rw [if_neg (show ¬ (false = true) by decide)] at H
      have H' := Aside0.mk H
      clear H
      go_wp2_with (first | ((with_reducible refine gate_callee (f := 56) rfl ?_); refine goesL_ (some 12) rfl rfl Try.func56 (by kernel_rfl) rfl #[.slice A0 l0.length c0] rfl u10_6 ?_; (with_reducible refine (impl_areRanges.calls k _ _ l0 false _ ?side1 ?side2 A5.out).mono ?_); (case side1 => exact u10_7); (case side2 => exact HC0.out); rintro e w11 ⟨rfl, hb⟩; refine ⟨_, rfl, ?_⟩; have n0_ := Aside0.mk (below_step u10_1 hb); clear HB; have HB := n0_; clear n0_; (try clear hb); (try clear hb2); (try clear hk); (try clear hi)))
      go_meet
      case rel => exact ⟨_, (true), u10_15, H', ⟨by first | omega | exact Nat.le_refl _⟩, ⟨u10_1⟩⟩
    subst c6
    rw [if_pos rfl] at H
    replace H := Option.bind_eq_some_iff.mp H
    obtain ⟨t278, A70, H⟩ := H
    have A7 := Aside0.mk A70
    clear A70
    by_cases c8 : t278 = true
    · subst c8
      rw [if_pos rfl] at H
      have H' := Aside0.mk H
      clear H
      go_wp2_with (first | ((with_reducible refine gate_callee (f := 56) rfl ?_); refine goesL_ (some 12) rfl rfl Try.func56 (by kernel_rfl) rfl #[.slice A0 l0.length c0] rfl u10_6 ?_; (with_reducible refine (impl_areRanges.calls k _ _ l0 true _ ?side1 ?side2 A5.out).mono ?_); (case side1 => exact u10_7); (case side2 => exact HC0.out); rintro e w9 ⟨rfl, hb⟩; refine ⟨_, rfl, ?_⟩; have n0_ := Aside0.mk (below_step u10_1 hb); clear HB; have HB := n0_; clear n0_; (try clear hb); (try clear hb2); (try clear hk); (try clear hi)) | (go_at_call 58; (with_reducible refine (impl_isGroupId.calls a2 true _ A7.out).mono ?_); rintro e w' ⟨rfl, ⟨nd, rfl⟩⟩))
      go_meet
      case rel => exact ⟨_, (((l0.length : Int) == 24)), u10_15, H', ⟨by first | omega | exact Nat.le_refl _⟩, ⟨u10_1⟩⟩
    replace c8 := Bool.eq_false_iff.mpr c8
    subst c8
    rw [if_neg (show ¬ (false = true) by decide)] at H
    have H' := Aside0.mk H
    clear H
    go_wp2_with (first | ((with_reducible refine gate_callee (f := 56) rfl ?_); refine goesL_ (some 12) rfl rfl Try.func56 (by kernel_rfl) rfl #[.slice A0 l0.length c0] rfl u10_6 ?_; (with_reducible refine (impl_areRanges.calls k _ _ l0 true _ ?side1 ?side2 A5.out).mono ?_); (case side1 => exact u10_7); (case side2 => exact HC0.out); rintro e w10 ⟨rfl, hb⟩; refine ⟨_, rfl, ?_⟩; have n0_ := Aside0.mk (below_step u10_1 hb); clear HB; have HB := n0_; clear n0_; (try clear hb); (try clear hb2); (try clear hk); (try clear hi)) | (go_at_call 58; (with_reducible refine (impl_isGroupId.calls a2 false _ A7.out).mono ?_); rintro e w' ⟨rfl, ⟨nd, rfl⟩⟩))
    go_meet
    case rel => exact ⟨_, (true), u10_15, H', ⟨by first | omega | exact Nat.le_refl _⟩, ⟨u10_1⟩⟩
  clear HC4
  try clear p2
  try clear c5
  try clear c6
  try clear c8
  obtain ⟨kq, x23_3, rfl, HA, HJ3, HB⟩ := hcut
  cases kq with
  | zero => exact absurd HA.out (by simp [impl_splitRange.j0])
  | succ kj3 =>
    have H := HA.out
    clear HA
    simp only [impl_splitRange.j0] at H
    by_cases c12 : x23_3 = true
    · subst c12
      rw [if_pos rfl] at H
      simp only [Option.some.injEq, Prod.mk.injEq] at H
      obtain ⟨rfl, rfl⟩ := H
      go_wp2
      go_ret2
      exact ⟨_, by first | rfl | (simp [errW_none, errW_some] <;> rfl) | (simp [*, errW_none, errW_some] <;> rfl), u10_14, u10_1⟩
    replace c12 := Bool.eq_false_iff.mpr c12
    subst c12
    rw [if_neg (show ¬ (false = true) by decide)] at H
    replace H := Option.bind_eq_some_iff.mp H
    obtain ⟨t279, A130, H⟩ := H
    have A13 := Aside0.mk A130
    clear A130
    by_cases c14 : 0 ≤ t279
    rotate_left
    · rw [if_neg c14] at H
      exact absurd H (by simp)
    rw [if_pos c14] at H
    have c14b0 : decide (0 ≤ t279) = true := decide_eq_true c14
    clear c14
    by_cases c15 : t279 < (l0.length : Int)
    rotate_left
    · rw [if_neg c15] at H
      exact absurd H (by simp)
    rw [if_pos c15] at H
    have c15b0 : decide (t279 < (l0.length : Int)) = true := decide_eq_true c15
    clear c15
    have H9 := Aside0.mk H
    clear H
    go_upto_if 34 with (first | ((with_reducible refine gate_callee (f := 59) rfl ?_); refine goesL_ (some 26) rfl rfl Try.func59 (by kernel_rfl) rfl #[.slice A0 l0.length c0, .int .u64 a1] rfl u10_6 ?_; (with_reducible refine (impl_findRange.calls _ _ l0 a1 t279 _ ?side1 ?side2 A13.out).mono ?_); (case side1 => exact u10_7); (case side2 => exact HC0.out); rintro e w16 ⟨rfl, hb⟩; refine ⟨_, rfl, ?_⟩; have n0_ := Aside0.mk (below_step u10_1 hb); clear HB; have HB := n0_; clear n0_; (try clear hb); (try clear hb2); (try clear hk); (try clear hi); have p280 : 0 ≤ (t279 : Int) := of_decide_eq_true u10_4; have q280 : t279 < (l0.length : Int) := of_decide_eq_true u10_4; obtain ⟨ad280, e280, hx280_0, hx280_1, hx280_2⟩ := at_T26 HR0.out t279 p280 q280; cases e280; replace hx280_0 := (HB.out.cell (World.block_lt_of_cell? w _ hx280_0)).trans hx280_0; replace hx280_1 := (HB.out.cell (World.block_lt_of_cell? w _ hx280_1)).trans hx280_1; replace hx280_2 := (HB.out.cell (World.block_lt_of_cell? w _ hx280_2)).trans hx280_2; replace p280 := eq_true p280; replace q280 := eq_true q280) | ((with_reducible refine gate_dst (N := 9) rfl ?_); (try (refine gate_guard (by rfl) ?_; dsimp only)); refine box_event ?hg (N := 9) ?hd (cs := #[.int .u64 0, .int .u64 0, .int .i64 0]) (t := 26) ?hr ?_; (case hd => rfl); (case hg => rfl); (case hr => first | (go_simp; done) | (go_simp; rfl)); intro gb281 hg w17 hbox hb; have n0_ := Aside0.mk (below_step u10_1 hb); have n1_ := Aside0.mk (hbox); have n2_ := Aside0.mk ((by rw [hg]; exact (below_size u10_1) : w.heap.size ≤ gb281)); have n3_ := Aside0.mk ((by rw [hg]; exact (below_size u10_1) : w.heap.size ≤ gb281)); clear HB; have HB := n0_; have BK281 := n1_; have GW281 := n2_; have GE281 := n3_; clear n0_ n1_ n2_ n3_; clear hb hbox hg; have hcz18_0 : w17.cell? ⟨gb281, 0, none⟩ = some (.int .u64 0) := (blk_cell BK281.out 0).trans rfl; have hcz18_1 : w17.cell? ⟨gb281, 1, none⟩ = some (.int .u64 0) := (blk_cell BK281.out 1).trans rfl; have hcz18_2 : w17.cell? ⟨gb281, 2, none⟩ = some (.int .i64 0) := (blk_cell BK281.out 2).trans rfl; have hfz18_0 := blk_frozen BK281.out 0; have hfz18_1 := blk_frozen BK281.out 1; have hfz18_2 := blk_frozen BK281.out 2))
    have H := H9.out
    clear H9
    by_cases c19 : ((rd_T26 l0 t279).f0) = a1
    · rw [if_pos c19] at H
      have c19b0 : (((rd_T26 l0 t279).f0) == a1) = true := beq_iff_eq.mpr c19
      have c19b1 : (((rd_T26 l0 t279).f0) != a1) = false := bne_eq_false_iff_eq.mpr c19
      clear c19
      (first | rw [c19b0] | (simp only [i64_w, i32_w]; rw [c19b0]) | skip)
      simp only [Option.some.injEq, Prod.mk.injEq] at H
      obtain ⟨rfl, rfl⟩ := H
      go_wp2
      go_ret2
      exact ⟨_, by first | rfl | (simp [errW_none, errW_some] <;> rfl) | (simp [*, errW_none, errW_some] <;> rfl), u10_14, u10_5⟩
    rw [if_neg c19] at H
    have c19b0 : (((rd_T26 l0 t279).f0) == a1) = false := beq_eq_false_iff_ne.mpr c19
    have c19b1 : (((rd_T26 l0 t279).f0) != a1) = true := bne_iff_ne.mpr c19
    (first | rw [c19b0] | (simp only [i64_w, i32_w]; rw [c19b0]) | skip)
    obtain ⟨y282, hy282⟩ : ∃ y_ : List (S26), y_ = (([] : List (S26))) := ⟨_, rfl⟩
    replace H : (if y282.length + l0.length < 5864062014805 then ((some (y282 ++ l0 : List (S26))).bind fun y285 => (if t279 < (y285.length : Int) then ((impl_Range_80.f (y285.set (t279 : Int).toNat (⟨(rd_T26 y285 t279).f0, IntKind.u64.wrap (a1 - 1), (rd_T26 y285 t279).f2⟩ : S26)) (wrap64 (t279 + 1)) (([(⟨a1, (rd_T26 l0 t279).f1, a2⟩ : S26)] : List (S26)))).bind fun t292 => (some (t292, true))) else (none))) else (none)) = some (r1, r2) := by first | (rw [hy282]; with_reducible exact H) | (have H2_ := (Option.bind_some _ _).symm.trans H; rw [hy282]; with_reducible exact H2_) | (have H2_ := (Option.bind_some _ _).symm.trans H; with_reducible exact H2_) | with_reducible exact H | (rw [hy282]; exact H) | exact H
    have Ny282 := Aside0.mk hy282
    clear hy282
    by_cases c20 : y282.length + l0.length < 5864062014805
    rotate_left
    · rw [if_neg c20] at H
      exact absurd H (by simp)
    rw [if_pos c20] at H
    have LMc20 := Aside0.mk c20
    clear c20
    obtain ⟨y285, hy285⟩ : ∃ y_ : List (S26), y_ = (y282 ++ l0) := ⟨_, rfl⟩
    replace H : (if t279 < (y285.length : Int) then ((impl_Range_80.f (y285.set (t279 : Int).toNat (⟨(rd_T26 y285 t279).f0, IntKind.u64.wrap (a1 - 1), (rd_T26 y285 t279).f2⟩ : S26)) (wrap64 (t279 + 1)) (([(⟨a1, (rd_T26 l0 t279).f1, a2⟩ : S26)] : List (S26)))).bind fun t292 => (some (t292, true))) else (none)) = some (r1, r2) := by first | (rw [hy285]; with_reducible exact H) | (have H2_ := (Option.bind_some _ _).symm.trans H; rw [hy285]; with_reducible exact H2_) | (have H2_ := (Option.bind_some _ _).symm.trans H; with_reducible exact H2_) | with_reducible exact H | (rw [hy285]; exact H) | exact H
    have Ny285 := Aside0.mk hy285
    clear hy285
    by_cases c21 : t279 < (y285.length : Int)
    rotate_left
    · rw [if_neg c21] at H
      exact absurd H (by simp)
    rw [if_pos c21] at H
    have c21b0 : decide (t279 < (y285.length : Int)) = true := decide_eq_true c21
    clear c21
    obtain ⟨y288, hy288⟩ : ∃ y_ : List (S26), y_ = (y285.set (t279 : Int).toNat (⟨(rd_T26 y285 t279).f0, IntKind.u64.wrap (a1 - 1), (rd_T26 y285 t279).f2⟩ : S26)) := ⟨_, rfl⟩
    replace H : ((impl_Range_80.f y288 (wrap64 (t279 + 1)) (([(⟨a1, (rd_T26 l0 t279).f1, a2⟩ : S26)] : List (S26)))).bind fun t292 => (some (t292, true))) = some (r1, r2) := by first | (rw [hy288]; with_reducible exact H) | (have H2_ := (Option.bind_some _ _).symm.trans H; rw [hy288]; with_reducible exact H2_) | (have H2_ := (Option.bind_some _ _).symm.trans H; with_reducible exact H2_) | with_reducible exact H | (rw [hy288]; exact H) | exact H
    have Ny288 := Aside0.mk hy288
    clear hy288
    obtain ⟨y289, hy289⟩ : ∃ y_ : List (S26), y_ = (([(⟨a1, (rd_T26 l0 t279).f1, a2⟩ : S26)] : List (S26))) := ⟨_, rfl⟩
    replace H : ((impl_Range_80.f y288 (wrap64 (t279 + 1)) y289).bind fun t292 => (some (t292, true))) = some (r1, r2) := by first | (rw [hy289]; with_reducible exact H) | (have H2_ := (Option.bind_some _ _).symm.trans H; rw [hy289]; with_reducible exact H2_) | (have H2_ := (Option.bind_some _ _).symm.trans H; with_reducible exact H2_) | with_reducible exact H | (rw [hy289]; exact H) | exact H
    have Ny289 := Aside0.mk hy289
    clear hy289
    replace H := Option.bind_eq_some_iff.mp H
    obtain ⟨t292, A230, H⟩ := H
    replace H : (some (t292, true)) = some (r1, r2) := H
    have A23 := Aside0.mk A230
    clear A230
    simp only [Option.some.injEq, Prod.mk.injEq] at H
    obtain ⟨rfl, rfl⟩ := H
    go_wp2_with (first | ((with_reducible refine gate_dst (N := 35) rfl ?_); (try (refine gate_guard (by rfl) ?_; dsimp only)); refine Kd.R_lit k26 _ 26 ?hg (N := 35) ?hd (xs := ([] : List (S26))) (inner := []) (ok := fun _ => True) (okp := fun _ => True) ?hr ?hp (fun _ hk => hk) trivial (Below.refl _ _) (Nat.le_refl _) (by simp) ?_; (case hd => rfl); (case hg => rfl); (case hr => first | (go_simp; done) | (go_simp; rfl)); (case hp => exact (Reps.none _ _)); intro v283 w24 ho25 hb hg_ hnew_; clear hg_ hnew_; (first | rw [← Ny282.out] at ho25 | (simp only [Int.reduceToNat] at ho25; rw [← Ny282.out] at ho25)); have n0_ := Aside0.mk (Kd.R_lower (Kd.R_newB ho25 (g := gb281) (o := .cells #[.int .u64 ((rd_T26 l0 t279).f0), .int .u64 ((rd_T26 l0 t279).f1), .int .i64 ((rd_T26 l0 t279).f2)] 26 (0, 0)) u10_8) (below_size u10_5)); have n1_ := Aside0.mk (blk_below (g := gb281) (o := .cells #[.int .u64 ((rd_T26 l0 t279).f0), .int .u64 ((rd_T26 l0 t279).f1), .int .i64 ((rd_T26 l0 t279).f2)] 26 (0, 0)) u10_8 hb); have n2_ := Aside0.mk (below_step u10_5 hb); clear BK281; clear HB; have HO284 := n0_; have BK281 := n1_; have HB := n2_; clear n0_ n1_ n2_; clear hb ho25) | ((with_reducible refine gate_builtin (b := .append) (xs := #[.tmp 35, .tmp 36]) rfl ?_); (try (refine gate_guard (by rfl) ?_; dsimp only)); at_builtin; refine Kd.R_append_rows k26 (w0 := w) w.heap.size rfl (.tmp 35) (.tmp 36) 32 26 (.agg #[(.int .u64 0), (.int .u64 0), (.int .i64 0)]) 24 rfl Try.underlying32 info26 rfl (by decide) (by omega) v283 y282 l0 _ _ _ (fun k_ => k_ ≠ gb281) (fun _ => False) rfl rfl ?aO ?aR (fun _ _ h => h) (fun _ h => h.elim) ?aF ?aB ?aS ?aL ?_; (case aR => repeat (first | exact (Kd.C_below HR0.out HB.out) | (with_reducible refine Kd.C_alloc ?_ _) | (with_reducible refine Kd.C_drewN ?_ _) | (with_reducible refine Kd.C_drew ?_))); (case aB => exact u10_5); (case aF => exact (fun k_ hk => Kd.freshB (g := gb281) (o := .cells #[.int .u64 ((rd_T26 l0 t279).f0), .int .u64 ((rd_T26 l0 t279).f1), .int .i64 ((rd_T26 l0 t279).f2)] 26 (0, 0)) u10_10 k_ hk)); (case aO => exact (by (with_reducible repeat (first | apply Kd.R_alloc | apply Kd.R_drewN | apply Kd.R_drew)); exact Kd.R_mono HO284.out (fun _ hk => hk.2))); (case aS => exact (below_size u10_5)); (case aL => have := LMc20.out; omega); intro v286 w26 ho hb hg hat; rw [← Ny285.out] at ho; have n0_ := Aside0.mk (blk_grown (g := gb281) (o := .cells #[.int .u64 ((rd_T26 l0 t279).f0), .int .u64 ((rd_T26 l0 t279).f1), .int .i64 ((rd_T26 l0 t279).f2)] 26 (0, 0)) u10_10 hg (Kd.R_away HO284.out (fun _ hk => hk.2))); have n1_ := Aside0.mk (hb); have n2_ := Aside0.mk (ho); clear BK281; clear HB; clear HO284; have BK281 := n0_; have HB := n1_; have HO287 := n2_; clear n0_ n1_ n2_; clear ho hb hg hat; have p22 : 0 ≤ (t279 : Int) := of_decide_eq_true u10_4; have q22 : (t279 : Int) < ((y285.length : Int) : Int) := of_decide_eq_true u10_4; obtain ⟨go22, co22, eo22, gb22, gl22, cl22, HG22⟩ := Kd.R_form HO287.out (by omega); (first | cases eo22 | (injection eo22 with ea_ en_ ec_; (first | subst ea_ | (injection ea_ with ea_; subst ea_)); subst ec_; clear en_)); have GB22 := Aside0.mk gb22; have GG22 := Aside0.mk HG22; clear gb22 gl22 HG22; obtain ⟨ce22, hcl22, hM22, hcc22, hfr22⟩ := Kd.R_elem HO287.out z26 (t279 : Int) p22 q22; obtain rfl := k26_openM hM22; have hx22_0 : w26.cell? ⟨go22, (t279 : Int).toNat * 3, none⟩ = some (.int .u64 ((rd_T26 y285 t279).f0)) := hcc22 0 _ rfl; have hx22_1 : w26.cell? ⟨go22, (t279 : Int).toNat * 3 + 1, none⟩ = some (.int .u64 ((rd_T26 y285 t279).f1)) := hcc22 1 _ rfl; have hx22_2 : w26.cell? ⟨go22, (t279 : Int).toNat * 3 + 2, none⟩ = some (.int .i64 ((rd_T26 y285 t279).f2)) := hcc22 2 _ rfl; have hf22_0 : w26.frozen? ⟨go22, (t279 : Int).toNat * 3, none⟩ = false := hfr22 0; have hf22_1 : w26.frozen? ⟨go22, (t279 : Int).toNat * 3 + 1, none⟩ = false := hfr22 1; have hf22_2 : w26.frozen? ⟨go22, (t279 : Int).toNat * 3 + 2, none⟩ = false := hfr22 2; clear hcl22 hcc22 hfr22 hM22; replace p22 := eq_true p22; replace q22 := eq_true q22; have HX27 := Aside0.mk (show Kd.R k26 26 w26 w.heap.size (fun k_ => k_ ≠ gb281) (.slice (some ⟨go22, 0, none⟩) y285.length co22) y285 from u10_19); obtain ⟨ce27, hcl27, hM27, hcc27, hfr27⟩ := Kd.R_elem HX27.out z26 (t279 : Int) (of_decide_eq_true u10_4) (by have h_ : (t279 : Int) < ((y285.length : Int) : Int) := of_decide_eq_true u10_4; first | exact h_ | (have e_ := (Kd.R_reads' HO287.out).1; omega) | simpa using h_); obtain rfl := k26_openM hM27; have HP27 := Kd.R_seg HX27.out (t279 : Int) (of_decide_eq_true u10_4) (by have h_ : (t279 : Int) < ((y285.length : Int) : Int) := of_decide_eq_true u10_4; first | exact h_ | (have e_ := (Kd.R_reads' HO287.out).1; omega) | simpa using h_) (seg := [.int .u64 (IntKind.u64.wrap (a1 - 1))]) (j := 1) hcl27 hcc27 (show 2 ≤ 3 from by decide) (x' := (⟨(rd_T26 y285 t279).f0, IntKind.u64.wrap (a1 - 1), (rd_T26 y285 t279).f2⟩ : S26)) (k26_mkM _ _ _ (⟨(rd_T26 y285 t279).f0, IntKind.u64.wrap (a1 - 1), (rd_T26 y285 t279).f2⟩ : S26) ) (fun _ hk => hk); have hx27_1 := hcc27 1 _ rfl; (try simp only [show (k26).sz = 3 from rfl, Nat.mul_one, Nat.add_zero] at hx27_1); have hf27_1 := hfr27 1; (try simp only [show (k26).sz = 3 from rfl, Nat.mul_one, Nat.add_zero] at hf27_1); clear hcl27 hcc27 hfr27 hM27) | ((with_reducible refine gate_store (t := 22) (p := 43) rfl ?_); refine store_event (t := 22) (p := 43) (v := ?vo_w28) (w1 := (w26.setCell ⟨go22, (t279 : Int).toNat * 3 + 1, none⟩ (.int .u64 (IntKind.u64.wrap (a1 - 1))))) ?hg ?ho ?hn ?hr ?_; (case ho => rfl); (case hg => rfl); (case hn => rfl); (case hr => first | (go_simp; done) | (go_simp; rfl)); intro w28 hw; have hg : w26.grownBy w28 (some go22) := (by rw [hw]; exact HP27.2); have hp_ : Kd.R k26 26 w28 w.heap.size (fun k_ => k_ ≠ gb281) (.slice (some ⟨go22, 0, none⟩) y285.length co22) y288 := (by rw [hw, Ny288.out]; exact HP27.1); clear HP27; have n0_ := Aside0.mk (blk_grown (g := gb281) (o := .cells #[.int .u64 ((rd_T26 l0 t279).f0), .int .u64 ((rd_T26 l0 t279).f1), .int .i64 ((rd_T26 l0 t279).f2)] 26 (0, 0)) u10_10 hg (Kd.R_away HO287.out (fun _ hk => hk))); have n1_ := Aside0.mk (hp_); have n2_ := Aside0.mk ((by rw [hw]; exact below_set (HB.out) GB22.out : Below w.heap.size w w28)); clear BK281; clear HO287; clear HB; have BK281 := n0_; have HO287 := n1_; have HB := n2_; clear n0_ n1_ n2_; clear hg hw hp_; have hcz29_0 : w28.cell? ⟨gb281, 0, none⟩ = some (.int .u64 ((rd_T26 l0 t279).f0)) := (blk_cell BK281.out 0).trans rfl; have hcz29_1 : w28.cell? ⟨gb281, 1, none⟩ = some (.int .u64 ((rd_T26 l0 t279).f1)) := (blk_cell BK281.out 1).trans rfl; have hcz29_2 : w28.cell? ⟨gb281, 2, none⟩ = some (.int .i64 ((rd_T26 l0 t279).f2)) := (blk_cell BK281.out 2).trans rfl; have hfz29_0 := blk_frozen BK281.out 0; have hfz29_1 := blk_frozen BK281.out 1; have hfz29_2 := blk_frozen BK281.out 2) | ((with_reducible refine gate_dst (N := 52) rfl ?_); (try (refine gate_guard (by rfl) ?_; dsimp only)); refine Kd.R_lit k26 _ 26 ?hg (N := 52) ?hd (xs := ([(⟨a1, (rd_T26 l0 t279).f1, a2⟩ : S26)] : List (S26))) (inner := [.int .u64 a1, .int .u64 ((rd_T26 l0 t279).f1), .int .i64 a2]) (ok := fun _ => True) (okp := fun _ => True) ?hr ?hp (fun _ hk => hk) trivial (Below.refl _ _) (Nat.le_refl _) (by simp) ?_; (case hd => rfl); (case hg => rfl); (case hr => first | (go_simp; done) | (go_simp; rfl)); (case hp => exact (Reps.c3 (show Kd.M k26 _ _ _ (⟨a1, (rd_T26 l0 t279).f1, a2⟩ : S26) [.int .u64 a1, .int .u64 ((rd_T26 l0 t279).f1), .int .i64 a2] from (k26_mkM _ _ _ (⟨a1, (rd_T26 l0 t279).f1, a2⟩ : S26) )) (Reps.none _ _))); intro v290 w30 ho31 hb hg_ hnew_; clear hg_ hnew_; (first | rw [← Ny289.out] at ho31 | (simp only [Int.reduceToNat] at ho31; rw [← Ny289.out] at ho31)); have n0_ := Aside0.mk (Kd.R_elder' u10_19 (Kd.R_base ho31) hb); have n1_ := Aside0.mk (Kd.R_lower (Kd.R_newB (Kd.R_new' ho31 (Kd.R_lt u10_19)) (g := gb281) (o := .cells #[.int .u64 ((rd_T26 l0 t279).f0), .int .u64 ((rd_T26 l0 t279).f1), .int .i64 ((rd_T26 l0 t279).f2)] 26 (0, 0)) u10_10) (below_size u10_5)); have n2_ := Aside0.mk (blk_below (g := gb281) (o := .cells #[.int .u64 ((rd_T26 l0 t279).f0), .int .u64 ((rd_T26 l0 t279).f1), .int .i64 ((rd_T26 l0 t279).f2)] 26 (0, 0)) u10_10 hb); have n3_ := Aside0.mk (below_step u10_5 hb); clear HO287; clear BK281; clear HB; have HO287 := n0_; have HO291 := n1_; have BK281 := n2_; have HB := n3_; clear n0_ n1_ n2_ n3_; clear hb ho31; obtain ⟨Ao32, co32, eo32⟩ := Kd.R_slice HO291.out; subst eo32) | ((with_reducible refine gate_callee (f := 80) rfl ?_); refine goesL_ (some 53) rfl rfl Try.func80 (by kernel_rfl) rfl #[.slice (some ⟨go22, 0, none⟩) y285.length co22, .int .i64 (wrap64 (t279 + 1)), .slice Ao32 y289.length co32] rfl u10_6 ?_; (with_reducible refine (impl_Range_80.calls (fun k_ => some k_ = (.slice (some ⟨go22, 0, none⟩) y285.length co22 : Value).ownBlock) (.slice (some ⟨go22, 0, none⟩) y285.length co22) y288 (wrap64 (t279 + 1)) (fun k_ => some k_ = (.slice Ao32 y289.length co32 : Value).ownBlock) (.slice Ao32 y289.length co32) y289 t292 w _ ?side1 ?side2 ?side3 ?side4 ?side5 A23.out).mono ?_); (case side1 => exact u10_5); (case side2 => exact Kd.R_tight rfl HO287.out); (case side3 => exact fun k_ e_ => (HO287.out.1 k_ e_.symm).2); (case side4 => exact Kd.R_tight rfl HO291.out); (case side5 => exact fun k_ e_ => (HO291.out.1 k_ e_.symm).1.2); rintro e w33 ⟨v293, rfl, ho0, hb, hkp⟩; refine ⟨_, rfl, ?_⟩; have n0_ := Aside0.mk (blk_kept u10_10 hkp (fun hs_ => Or.elim hs_ (fun e_ => (fun e_ => (Kd.R_away HO287.out (fun _ hk => hk.1)) e_) e_) (fun e_ => (fun e_ => (Kd.R_away HO291.out (fun _ hk => hk.2)) e_) e_))); have n1_ := Aside0.mk (Kd.R_mono (ok' := fun k_ => k_ ≠ gb281) ho0 (fun k_ hk_ => Or.elim hk_ (fun hs_ => Or.elim hs_ (fun hs_ => fun e_ => (Kd.R_away HO287.out (fun _ hk => hk.1)) (by rw [← e_]; exact hs_)) (fun hs_ => fun e_ => (Kd.R_away HO291.out (fun _ hk => hk.2)) (by rw [← e_]; exact hs_))) (fun hn_ => (Kd.freshB (g := gb281) (o := .cells #[.int .u64 ((rd_T26 l0 t279).f0), .int .u64 ((rd_T26 l0 t279).f1), .int .i64 ((rd_T26 l0 t279).f2)] 26 (0, 0)) u10_10 k_ hn_)))); have n2_ := Aside0.mk (hb); clear BK281; clear HB; clear HO287; clear HO291; have BK281 := n0_; have HO294 := n1_; have HB := n2_; clear n0_ n1_ n2_; (try clear hb); (try clear hkp); (try clear ho0)))
    go_ret2
    exact ⟨_, by first | rfl | (simp [errW_none, errW_some] <;> rfl) | (simp [*, errW_none, errW_some] <;> rfl), (by (with_reducible repeat (first | apply Kd.R_alloc | apply Kd.R_drewN | apply Kd.R_drew)); exact Kd.R_mono HO294.out (fun _ hk => trivial)), u10_5⟩

end Go.Proofs.Ytfabcjkaoidmeaa.QFnRanges
