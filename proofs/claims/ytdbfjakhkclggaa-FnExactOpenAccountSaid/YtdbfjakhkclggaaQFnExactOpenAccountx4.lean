-- Printed by the session's own program wip/prx.py.
import Derived.Test.YtdbfjakhkclggaaQFnExactOpenAccountx0
namespace Go.Proofs.Ytdbfjakhkclggaa.QFnExactOpenAccount
open Go.RowKit Go.Proofs.YtdbfjakhkclggaaW.PrintWords Go.Proofs.YtdbfjakhkclggaaW.PrintLast Go.Proofs.YtdbfjakhkclggaaW.PrintMore
attribute [local go_sem] max2_int min2_int max_two min_two max_three min_three max_four min_four Go.Proofs.Ytdbfjakhkclggaa.Set.isSome_setCell Go.Proofs.Ytdbfjakhkclggaa.Add.add64   -- for this text's walks alone
set_option linter.unusedVariables false
set_option linter.unusedSimpArgs false

-- squeezed
theorem u4_0 {P : Prop} (h : P := by repeat (first | (with_reducible first | exact HB.out | apply below_alloc | apply pw_below_drewN | apply below_drew1 | refine below_set ?_ GE149.out | refine below_set ?_ GE150.out | refine below_set ?_ GE151.out) | exact HB.out)) : P := h
theorem u4_1 {P : Prop} (h : P := by (with_reducible repeat (first | refine blk_drewN ?_ _ | refine blk_drew ?_ | refine blk_alloc ?_ _)); exact BK149.out) : P := h
theorem u4_2 {P : Prop} (h : P := by repeat (first | (with_reducible first | exact HB.out | apply below_alloc | apply pw_below_drewN | apply below_drew1) | exact HB.out)) : P := h
theorem u4_3 {P : Prop} (h : P := by repeat (first | (with_reducible first | exact HB.out | apply below_alloc | apply pw_below_drewN | apply below_drew1 | refine below_set ?_ GE156.out) | exact HB.out)) : P := h
theorem u4_4 {P : Prop} (h : P := by repeat (first | (with_reducible first | exact HB.out | apply below_alloc | apply pw_below_drewN | apply below_drew1 | refine below_set ?_ GE149.out | refine below_set ?_ GE150.out) | exact HB.out)) : P := h
theorem u4_5 {P : Prop} (h : P := by (with_reducible repeat (first | refine blk_drewN ?_ _ | refine blk_drew ?_ | refine blk_alloc ?_ _)); exact BK150.out) : P := h
theorem u4_6 {P : Prop} (h : P := by repeat (first | (with_reducible first | exact HB.out | apply below_alloc | apply pw_below_drewN | apply below_drew1 | refine below_set ?_ GE149.out) | exact HB.out)) : P := h
theorem u4_7 {P : Prop} (h : P := by (with_reducible repeat (first | refine blk_drewN ?_ _ | refine blk_drew ?_ | refine blk_alloc ?_ _)); refine blk_far ?_ NB149_151.out _; (with_reducible repeat (first | refine blk_drewN ?_ _ | refine blk_drew ?_ | refine blk_alloc ?_ _)); exact BK149.out) : P := h
theorem u4_8 {P : Prop} (h : P := by (with_reducible repeat (first | refine blk_drewN ?_ _ | refine blk_drew ?_ | refine blk_alloc ?_ _)); refine blk_far ?_ NB150_151.out _; (with_reducible repeat (first | refine blk_drewN ?_ _ | refine blk_drew ?_ | refine blk_alloc ?_ _)); exact BK150.out) : P := h
theorem u4_9 {P : Prop} (h : P := by first | (with_reducible assumption) | assumption) : P := h
theorem u4_10 {P : Prop} (h : P := by first | rfl | (simp; done) | (simp [*]; done)) : P := h
theorem u4_11 {P : Prop} (h : P := by (with_reducible repeat (first | refine blk_drewN ?_ _ | refine blk_drew ?_ | refine blk_alloc ?_ _)); exact BK156.out) : P := h
/-! ### spec_l10Copy: function 54 -/
def spec_l10Copy.l0 : Nat → Int → List (S53) → List (S53) → Option ((List (S53)))
  | 0, _, _, _ => none
  | k + 1, x4, x150000, x152000 => if x4 < (x150000.length : Int) then (if 0 ≤ x4 then (if x152000.length < 3518437208883 then (spec_l10Copy.l0 k (wrap64 (x4 + 1)) x150000 (x152000 ++ [(⟨(rd_T53 x150000 x4).f0, (rd_T53 x150000 x4).f1, (rd_T53 x150000 x4).f2, (rd_T53 x150000 x4).f3, (rd_T53 x150000 x4).f4⟩ : S53)])) else (none)) else (none)) else (some x152000)
def spec_l10Copy.f (k : Nat) (l0_0 : List (S53)) : Option ((List (S53))) := spec_l10Copy.l0 k 0 l0_0 ([] : List (S53))
theorem spec_l10Copy.mono_l : ∀ k, (∀ y0 y1 y2, LeO (spec_l10Copy.l0 k y0 y1 y2) (spec_l10Copy.l0 (k + 1) y0 y1 y2))
  | 0 => fun _ _ _ r h => by simp [spec_l10Copy.l0] at h
  | k + 1 => by
    have ih0 := spec_l10Copy.mono_l k
    · intro y0 y1 y2
      unfold spec_l10Copy.l0
      repeat' first
      | (with_reducible exact ih0 _ _ _)
      | (with_reducible exact LeO.refl _)
      | (with_reducible exact LeO.none _)
      | (with_reducible refine LeO.ite ?_ ?_)
      | (with_reducible refine LeO.bind ?_ (fun _ => ?_))
      | exact ih0 _ _ _
      | exact LeO.none _
      | refine LeO.ite ?_ ?_
      | refine LeO.bind ?_ (fun _ => ?_)
theorem spec_l10Copy.mono : ∀ a0 k, LeO (spec_l10Copy.f k a0) (spec_l10Copy.f (k + 1) a0) := by
  intro a0 k
  have ih0 := spec_l10Copy.mono_l k
  unfold spec_l10Copy.f
  repeat' first
      | (with_reducible exact ih0 _ _ _)
      | (with_reducible exact LeO.refl _)
      | (with_reducible exact LeO.none _)
      | (with_reducible refine LeO.ite ?_ ?_)
      | (with_reducible refine LeO.bind ?_ (fun _ => ?_))
      | exact ih0 _ _ _
      | exact LeO.none _
      | refine LeO.ite ?_ ?_
      | refine LeO.bind ?_ (fun _ => ?_)
def spec_l10Copy.T5 : Bool × List (List Nat × List Nat) := (true, [([], []), ([0], [0]), ([], []), ([2], [2]), ([], []), ([3, 4], [3, 4]), ([5], [5]), ([6], [6]), ([1, 7], [1, 7]), ([0, 1, 2, 3, 4, 5, 6, 7, 8], []), ([9, 8, 8, 0, 1, 2, 3, 4, 5, 6, 7, 8], [8, 9])])
def spec_l10Copy.B5 : List Nat := [0, 1, 0, 4, 0, 28, 60, 124, 255, 511, 1023]
theorem spec_l10Copy.tab5 : rtab .any (opsOf Try.f54 5) = spec_l10Copy.T5 := by kernel_rfl
theorem spec_l10Copy.bits5 : waitsOk spec_l10Copy.T5.2 spec_l10Copy.B5 = true := by kernel_rfl
set_option maxHeartbeats 8000000 in
set_option maxRecDepth 100000 in
theorem spec_l10Copy.calls (k : Nat) (A0_0 : Option Addr) (c0_0 : Nat) (l0_0 : List (S53)) (r : List (S53)) (w : World) (hr0_0 : Kd.C k53 w A0_0 l0_0.length l0_0) (hc0_0 : l0_0.length ≤ c0_0) (h : spec_l10Copy.f k l0_0 = some r) :
    Calls Try.prog 54 #[.agg #[.slice A0_0 l0_0.length c0_0]] w fun e w' => ∃ v0_ : Value, e = .returned (.agg #[v0_]) ∧ Kd.R k53 53 w' w.heap.size (fun _ => True) v0_ r ∧ Below w.heap.size w w' := by
  have hu29 := Try.underlying29
  have hu53 := Try.underlying53
  have HR0_0 := Aside0.mk hr0_0
  have HC0_0 := Aside0.mk hc0_0
  clear hr0_0 hc0_0
  have HB := Aside0.mk (Below.refl w.heap.size w)
  have H : (spec_l10Copy.l0 k 0 l0_0 ([] : List (S53))) = some r := h
  clear h
  have H' := Aside0.mk H
  clear H
  go_enter Try.func54, Try.ntmps54
  go_wp2_with (first | ((with_reducible refine gate_dst (N := 1) rfl ?_); refine box_event ?hg (N := 1) ?hd (cs := #[.slice A0_0 l0_0.length c0_0]) (t := 29) ?hr ?_; (case hd => rfl); (case hg => rfl); (case hr => first | (go_simp; done) | (go_simp; rfl)); intro gb149 hg w2 hbox hb; have n0_ := Aside0.mk (below_step u4_2 hb); have n1_ := Aside0.mk (hbox); have n2_ := Aside0.mk ((by rw [hg]; exact (below_size u4_2) : w.heap.size ≤ gb149)); have n3_ := Aside0.mk ((by rw [hg]; exact (below_size u4_2) : w.heap.size ≤ gb149)); clear HB; have HB := n0_; have BK149 := n1_; have GW149 := n2_; have GE149 := n3_; clear n0_ n1_ n2_ n3_; clear hb hbox hg) | ((with_reducible refine gate_dst (N := 2) rfl ?_); refine box_event ?hg (N := 2) ?hd (cs := #[.slice none 0 0]) (t := 29) ?hr ?_; (case hd => rfl); (case hg => rfl); (case hr => first | (go_simp; done) | (go_simp; rfl)); intro gb150 hg w3 hbox hb; have n0_ := Aside0.mk (blk_below (g := gb149) (o := .cells #[.slice A0_0 l0_0.length c0_0] 29 (0, 0)) u4_1 hb); have n1_ := Aside0.mk (below_step u4_6 hb); have n2_ := Aside0.mk (hbox); have n3_ := Aside0.mk ((by rw [hg]; exact (below_size u4_6) : w.heap.size ≤ gb150)); have n4_ := Aside0.mk ((by rw [hg]; exact (below_size u4_6) : w.heap.size ≤ gb150)); have n5_ := Aside0.mk ((by rw [hg]; exact Nat.ne_of_lt (blk_lt (g := gb149) (o := .cells #[.slice A0_0 l0_0.length c0_0] 29 (0, 0)) u4_1) : gb149 ≠ gb150)); have n6_ := Aside0.mk ((by rw [hg]; exact Nat.ne_of_gt (blk_lt (g := gb149) (o := .cells #[.slice A0_0 l0_0.length c0_0] 29 (0, 0)) u4_1) : gb150 ≠ gb149)); clear BK149; clear HB; have BK149 := n0_; have HB := n1_; have BK150 := n2_; have GW150 := n3_; have GE150 := n4_; have NB149_150 := n5_; have NB150_149 := n6_; clear n0_ n1_ n2_ n3_ n4_ n5_ n6_; clear hb hbox hg) | ((with_reducible refine gate_dst (N := 3) rfl ?_); refine box_event ?hg (N := 3) ?hd (cs := #[.slice none 0 0]) (t := 29) ?hr ?_; (case hd => rfl); (case hg => rfl); (case hr => first | (go_simp; done) | (go_simp; rfl)); intro gb151 hg w4 hbox hb; have n0_ := Aside0.mk (blk_below (g := gb149) (o := .cells #[.slice A0_0 l0_0.length c0_0] 29 (0, 0)) u4_1 hb); have n1_ := Aside0.mk (blk_below (g := gb150) (o := .cells #[.slice none 0 0] 29 (0, 0)) u4_5 hb); have n2_ := Aside0.mk (below_step u4_4 hb); have n3_ := Aside0.mk (hbox); have n4_ := Aside0.mk ((by rw [hg]; exact (below_size u4_4) : w.heap.size ≤ gb151)); have n5_ := Aside0.mk ((by rw [hg]; exact (below_size u4_4) : w.heap.size ≤ gb151)); have n6_ := Aside0.mk ((by rw [hg]; exact Nat.ne_of_lt (blk_lt (g := gb149) (o := .cells #[.slice A0_0 l0_0.length c0_0] 29 (0, 0)) u4_1) : gb149 ≠ gb151)); have n7_ := Aside0.mk ((by rw [hg]; exact Nat.ne_of_gt (blk_lt (g := gb149) (o := .cells #[.slice A0_0 l0_0.length c0_0] 29 (0, 0)) u4_1) : gb151 ≠ gb149)); have n8_ := Aside0.mk ((by rw [hg]; exact Nat.ne_of_lt (blk_lt (g := gb150) (o := .cells #[.slice none 0 0] 29 (0, 0)) u4_5) : gb150 ≠ gb151)); have n9_ := Aside0.mk ((by rw [hg]; exact Nat.ne_of_gt (blk_lt (g := gb150) (o := .cells #[.slice none 0 0] 29 (0, 0)) u4_5) : gb151 ≠ gb150)); clear BK149; clear BK150; clear HB; have BK149 := n0_; have BK150 := n1_; have HB := n2_; have BK151 := n3_; have GW151 := n4_; have GE151 := n5_; have NB149_151 := n6_; have NB151_149 := n7_; have NB150_151 := n8_; have NB151_150 := n9_; clear n0_ n1_ n2_ n3_ n4_ n5_ n6_ n7_ n8_ n9_; clear hb hbox hg; have hnb5 := NB151_149.out; have hnc5 := NB149_151.out; have hnb6 := NB151_150.out; have hnc6 := NB150_151.out; have hcz7_0 : w4.cell? ⟨gb151, 0, none⟩ = some (.slice none 0 0) := (blk_cell BK151.out 0).trans rfl; have hfz7_0 := blk_frozen BK151.out 0))
  go_loopg [4] k (fun kq v4 w' => ∃ (x4_1 : Int) (x152000_1 : List (S53)) (u152000 : Value), v4 = .int .i64 x4_1 ∧ Aside0 (spec_l10Copy.l0 kq x4_1 l0_0 x152000_1 = some r) ∧ Aside0 (kq ≤ k) ∧ Aside0 (Kd.R k53 53 w' w.heap.size (fun _ => True) u152000 x152000_1) ∧ Aside0 (w'.heap[gb149]? = some (.cells #[(.slice A0_0 l0_0.length c0_0)] 29 (0, 0))) ∧ Aside0 (w'.heap[gb150]? = some (.cells #[(.slice none 0 0)] 29 (0, 0))) ∧ Aside0 (w'.heap[gb151]? = some (.cells #[u152000] 29 (0, 0))) ∧ Aside0 (Below w.heap.size w w'))
  case atStart => exact ⟨(0), (([] : List (S53))), (.slice none 0 0), u4_10, H', ⟨Nat.le_refl _⟩, ⟨(by first | exact Kd.R_nil _ _ _ _ _ | exact Kd.N_nil _ _ _ _ _ | exact Kd.V_nil _ _ _ _ _ | exact Kd.Q_nil _ _ _ _ _ | exact Kd.S_nil _ _ _ _ _)⟩, ⟨u4_7⟩, ⟨u4_8⟩, ⟨(by (with_reducible repeat (first | refine blk_drewN ?_ _ | refine blk_drew ?_ | refine blk_alloc ?_ _)); refine blk_put (cs := #[.slice none 0 0]) ?_ 0 _ rfl; (with_reducible repeat (first | refine blk_drewN ?_ _ | refine blk_drew ?_ | refine blk_alloc ?_ _)); exact BK151.out)⟩, ⟨u4_0⟩⟩
  clear H'
  try clear p2
  try clear c5
  try clear c6
  try clear hcz7_0
  try clear hfz7_0
  obtain ⟨x4_1, x152000_1, u152000, rfl, HA, HK1, HO_152000, BK149, BK150, BK151, HB⟩ := hrel
  cases gk with
  | zero => exact absurd HA.out (by simp [spec_l10Copy.l0])
  | succ k1 =>
    have H := HA.out
    clear HA
    simp only [spec_l10Copy.l0] at H
    by_cases c8 : x4_1 < (l0_0.length : Int)
    rotate_left
    · rw [if_neg c8] at H
      have c8b0 : decide (x4_1 < (l0_0.length : Int)) = false := decide_eq_false c8
      clear c8
      obtain rfl := Option.some.inj H
      have hnb18 := NB149_150.out
      have hnc18 := NB150_149.out
      have hnb19 := NB149_151.out
      have hnc19 := NB151_149.out
      have hcz20_0 : wr.cell? ⟨gb149, 0, none⟩ = some (.slice A0_0 l0_0.length c0_0) := (blk_cell BK149.out 0).trans rfl
      have hfz20_0 := blk_frozen BK149.out 0
      have hnb21 := NB151_150.out
      have hnc21 := NB150_151.out
      have hcz22_0 : wr.cell? ⟨gb151, 0, none⟩ = some (u152000) := (blk_cell BK151.out 0).trans rfl
      have hfz22_0 := blk_frozen BK151.out 0
      obtain ⟨Ao23, co23, eo23⟩ := Kd.R_slice HO_152000.out
      subst eo23
      have hcz24_0 : wr.cell? ⟨gb150, 0, none⟩ = some (.slice none 0 0) := (blk_cell BK150.out 0).trans rfl
      have hfz24_0 := blk_frozen BK150.out 0
      go_wp2
      refine bodyPost_ret (results_cell_row rfl _ _ gb150 29 #[.slice Ao23 x152000_1.length co23] (0, 0) _ rfl (by (with_reducible repeat (first | refine blk_drewN ?_ _ | refine blk_drew ?_ | refine blk_alloc ?_ _)); refine blk_put (cs := #[.slice none 0 0]) ?_ 0 _ rfl; (with_reducible repeat (first | refine blk_drewN ?_ _ | refine blk_drew ?_ | refine blk_alloc ?_ _)); exact BK150.out) Try.underlying29 rfl (by kernel_rfl)) rfl ?_
      exact ⟨_, by first | rfl | (simp [errW_none, errW_some] <;> rfl) | (simp [*, errW_none, errW_some] <;> rfl), (by (with_reducible repeat (first | apply Kd.R_alloc | apply Kd.R_drewN | apply Kd.R_drew)); exact Kd.R_mono (Kd.R_far (p := ⟨gb150, 0, none⟩) (Kd.R_types HO_152000.out BK150.out (by decide)) (fun _ hk => hk.2) (.slice Ao23 x152000_1.length co23)) (fun _ hk => trivial)), u4_0⟩
    rw [if_pos c8] at H
    have c8b0 : decide (x4_1 < (l0_0.length : Int)) = true := decide_eq_true c8
    clear c8
    by_cases c9 : 0 ≤ x4_1
    rotate_left
    · rw [if_neg c9] at H
      exact absurd H (by simp)
    rw [if_pos c9] at H
    have c9b0 : decide (0 ≤ x4_1) = true := decide_eq_true c9
    clear c9
    by_cases c10 : x152000_1.length < 3518437208883
    rotate_left
    · rw [if_neg c10] at H
      exact absurd H (by simp)
    rw [if_pos c10] at H
    have LMc10 := Aside0.mk c10
    clear c10
    obtain ⟨y153, hy153⟩ : ∃ y_ : List (S53), y_ = (x152000_1 ++ [(⟨(rd_T53 l0_0 x4_1).f0, (rd_T53 l0_0 x4_1).f1, (rd_T53 l0_0 x4_1).f2, (rd_T53 l0_0 x4_1).f3, (rd_T53 l0_0 x4_1).f4⟩ : S53)]) := ⟨_, rfl⟩
    replace H : (spec_l10Copy.l0 k1 (wrap64 (x4_1 + 1)) l0_0 y153) = some r := by first | (rw [hy153]; with_reducible exact H) | (have H2_ := (Option.bind_some _ _).symm.trans H; rw [hy153]; with_reducible exact H2_) | (have H2_ := (Option.bind_some _ _).symm.trans H; with_reducible exact H2_) | with_reducible exact H | (rw [hy153]; exact H) | exact H
    have Ny153 := Aside0.mk hy153
    clear hy153
    have H' := Aside0.mk H
    clear H
    have hnb11 := NB149_150.out
    have hnc11 := NB150_149.out
    have hnb12 := NB149_151.out
    have hnc12 := NB151_149.out
    have hcz13_0 : wr.cell? ⟨gb149, 0, none⟩ = some (.slice A0_0 l0_0.length c0_0) := (blk_cell BK149.out 0).trans rfl
    have hfz13_0 := blk_frozen BK149.out 0
    try go_wp2
    have n0_ := Aside0.mk (Kd.R_drew HO_152000.out)
    have n1_ := Aside0.mk (blk_drew BK149.out)
    have n2_ := Aside0.mk (blk_drew BK150.out)
    have n3_ := Aside0.mk (blk_drew BK151.out)
    have n4_ := Aside0.mk (below_drew1 HB.out)
    clear HO_152000
    clear BK149
    clear BK150
    clear BK151
    clear HB
    have HO_152000 := n0_
    have BK149 := n1_
    have BK150 := n2_
    have BK151 := n3_
    have HB := n4_
    clear n0_ n1_ n2_ n3_ n4_
    have p152 : 0 ≤ (x4_1 : Int) := of_decide_eq_true u4_9
    have q152 : x4_1 < (l0_0.length : Int) := of_decide_eq_true u4_9
    obtain ⟨ad152, e152, hx152_0, hx152_1, hx152_2, hx152_3, hx152_4⟩ := at_T53 HR0_0.out x4_1 p152 q152
    have hw152_4 := hx152_4
    have hw152_3 := hx152_3
    have hw152_2 := hx152_2
    have hw152_1 := hx152_1
    have hw152_0 := hx152_0
    cases e152
    replace hx152_0 := (HB.out.cell (World.block_lt_of_cell? w _ hx152_0)).trans hx152_0
    replace hx152_1 := (HB.out.cell (World.block_lt_of_cell? w _ hx152_1)).trans hx152_1
    replace hx152_2 := (HB.out.cell (World.block_lt_of_cell? w _ hx152_2)).trans hx152_2
    replace hx152_3 := (HB.out.cell (World.block_lt_of_cell? w _ hx152_3)).trans hx152_3
    replace hx152_4 := (HB.out.cell (World.block_lt_of_cell? w _ hx152_4)).trans hx152_4
    replace p152 := eq_true p152
    replace q152 := eq_true q152
    refine start_ (n := 11) (S := fun w' => w'.cell? ⟨gb151, 0, none⟩ = some (u152000) ∧ w'.cell? ⟨gb149, 0, none⟩ = some (.slice (some ad152) l0_0.length c0_0) ∧ w'.cell? (ad152.add ((x4_1).toNat * 5)) = some (.int .u64 ((rd_T53 l0_0 x4_1).f0)) ∧ w'.cell? ⟨(ad152.add ((x4_1).toNat * 5)).block, (ad152.add ((x4_1).toNat * 5)).off + 1, none⟩ = some (.int .u64 ((rd_T53 l0_0 x4_1).f1)) ∧ w'.cell? ⟨(ad152.add ((x4_1).toNat * 5)).block, (ad152.add ((x4_1).toNat * 5)).off + 2, none⟩ = some (.int .u64 ((rd_T53 l0_0 x4_1).f2)) ∧ w'.cell? ⟨(ad152.add ((x4_1).toNat * 5)).block, (ad152.add ((x4_1).toNat * 5)).off + 3, none⟩ = some (.int .u64 ((rd_T53 l0_0 x4_1).f3)) ∧ w'.cell? ⟨(ad152.add ((x4_1).toNat * 5)).block, (ad152.add ((x4_1).toNat * 5)).off + 4, none⟩ = some (.int .i64 ((rd_T53 l0_0 x4_1).f4))) (ds := [10]) #[false, false, false, false, false, false, false, false, false, false, false] (by kernel_rfl) rfl rfl ⟨(blk_cell BK151.out 0).trans rfl, (blk_cell BK149.out 0).trans rfl, ((HB.out.cell (World.block_lt_of_cell? w _ hw152_0)).trans hw152_0), ((HB.out.cell (World.block_lt_of_cell? w _ hw152_1)).trans hw152_1), ((HB.out.cell (World.block_lt_of_cell? w _ hw152_2)).trans hw152_2), ((HB.out.cell (World.block_lt_of_cell? w _ hw152_3)).trans hw152_3), ((HB.out.cell (World.block_lt_of_cell? w _ hw152_4)).trans hw152_4)⟩ (fun hHeld => ?_); refine with_tabW spec_l10Copy.tab5 spec_l10Copy.bits5 (fun HT_ HW_ => ?_)
    generalize wr.drew = w14 at HO_152000 BK149 BK150 BK151 HB hx152_0 hx152_1 hx152_2 hx152_3 hx152_4 hHeld ⊢
    refine pure_ (i := 0) (N := some 13) (v := ?_) (a' := ?_) #[true, false, false, false, false, false, false, false, false, false, false] rfl rfl (any_of HT_.out (by kernel_rfl)) (fun _ _ _ h => h) (Or.inl ⟨by rfl, ?_⟩) ?_ ?_
    rotate_left
    · intro w'
      go_simp
      with_reducible rfl
    rotate_left
    · simp only [Act.put, List.setIfInBounds_toArray, List.set_cons_zero, List.set_cons_succ, i64_w, i32_w]
      rfl
    refine pure_ (i := 2) (N := some 15) (v := ?_) (a' := ?_) #[true, false, true, false, false, false, false, false, false, false, false] rfl rfl (any_of HT_.out (by kernel_rfl)) (fun _ _ _ h => h) (Or.inl ⟨by rfl, ?_⟩) ?_ ?_
    rotate_left
    · intro w'
      go_simp
      with_reducible rfl
    rotate_left
    · simp only [Act.put, List.setIfInBounds_toArray, List.set_cons_zero, List.set_cons_succ, i64_w, i32_w]
      rfl
    refine pure_ (i := 4) (N := some 17) (v := ?_) (a' := ?_) #[true, false, true, false, true, false, false, false, false, false, false] rfl rfl (any_of HT_.out (by kernel_rfl)) (fun _ _ _ h => h) (Or.inl ⟨by rfl, ?_⟩) ?_ ?_
    rotate_left
    · intro w'
      go_simp
      with_reducible rfl
    rotate_left
    · simp only [Act.put, List.setIfInBounds_toArray, List.set_cons_zero, List.set_cons_succ, i64_w, i32_w]
      rfl
    refine take_ (i := 1) (N := some 14) (v := ?_) (a' := ?_) #[true, true, true, false, true, false, false, false, false, false, false] rfl rfl (take_ofW HT_.out HW_.out (by kernel_rfl)) (fun _ _ _ h => h) (Or.inl ⟨by rfl, ?_⟩) hHeld ?_ ?_
    rotate_left
    · rintro w' ⟨s0, s1, s2, s3, s4, s5, s6⟩
      go_simp
      with_reducible rfl
    rotate_left
    · simp only [Act.put, List.setIfInBounds_toArray, List.set_cons_zero, List.set_cons_succ, i64_w, i32_w]
      rfl
    refine take_ (i := 3) (N := some 16) (v := ?_) (a' := ?_) #[true, true, true, true, true, false, false, false, false, false, false] rfl rfl (take_ofW HT_.out HW_.out (by kernel_rfl)) (fun _ _ _ h => h) (Or.inl ⟨by rfl, ?_⟩) hHeld ?_ ?_
    rotate_left
    · rintro w' ⟨s0, s1, s2, s3, s4, s5, s6⟩
      go_simp
      with_reducible rfl
    rotate_left
    · simp only [Act.put, List.setIfInBounds_toArray, List.set_cons_zero, List.set_cons_succ, i64_w, i32_w]
      rfl
    refine pure_ (i := 5) (N := some 18) (v := ?_) (a' := ?_) #[true, true, true, true, true, true, false, false, false, false, false] rfl rfl (any_of HT_.out (by kernel_rfl)) (fun _ _ _ h => h) (Or.inl ⟨by rfl, ?_⟩) ?_ ?_
    rotate_left
    · intro w'
      go_simp
      with_reducible rfl
    rotate_left
    · simp only [Act.put, List.setIfInBounds_toArray, List.set_cons_zero, List.set_cons_succ, i64_w, i32_w]
      rfl
    refine take_ (i := 6) (N := some 19) (v := ?_) (a' := ?_) #[true, true, true, true, true, true, true, false, false, false, false] rfl rfl (take_ofW HT_.out HW_.out (by kernel_rfl)) (fun _ _ _ h => h) (Or.inl ⟨by rfl, ?_⟩) hHeld ?_ ?_
    rotate_left
    · rintro w' ⟨s0, s1, s2, s3, s4, s5, s6⟩
      go_simp
      with_reducible rfl
    rotate_left
    · simp only [Act.put, List.setIfInBounds_toArray, List.set_cons_zero, List.set_cons_succ, i64_w, i32_w]
      rfl
    refine one_ (i := 7) (N := some 20) #[true, true, true, true, true, true, true, true, false, false, false] rfl rfl (one_of HT_.out (by kernel_rfl)) (by decide) (fun K hK => ?_)
    refine value_ (w1 := ?_) (v := ?_) (by rfl) rfl ?_ ?_
    rotate_left 2
    · go_simp
      constructor
      · rfl
      rfl
    refine hK.out _ _ ⟨(blk_cell (blk_alloc BK151.out _) 0).trans rfl, (blk_cell (blk_alloc BK149.out _) 0).trans rfl, (World.cell?_alloc_lt _ _ _ (World.block_lt_of_cell? _ _ (((HB.out.cell (World.block_lt_of_cell? w _ hw152_0)).trans hw152_0)))).trans (((HB.out.cell (World.block_lt_of_cell? w _ hw152_0)).trans hw152_0)), (World.cell?_alloc_lt _ _ _ (World.block_lt_of_cell? _ _ (((HB.out.cell (World.block_lt_of_cell? w _ hw152_1)).trans hw152_1)))).trans (((HB.out.cell (World.block_lt_of_cell? w _ hw152_1)).trans hw152_1)), (World.cell?_alloc_lt _ _ _ (World.block_lt_of_cell? _ _ (((HB.out.cell (World.block_lt_of_cell? w _ hw152_2)).trans hw152_2)))).trans (((HB.out.cell (World.block_lt_of_cell? w _ hw152_2)).trans hw152_2)), (World.cell?_alloc_lt _ _ _ (World.block_lt_of_cell? _ _ (((HB.out.cell (World.block_lt_of_cell? w _ hw152_3)).trans hw152_3)))).trans (((HB.out.cell (World.block_lt_of_cell? w _ hw152_3)).trans hw152_3)), (World.cell?_alloc_lt _ _ _ (World.block_lt_of_cell? _ _ (((HB.out.cell (World.block_lt_of_cell? w _ hw152_4)).trans hw152_4)))).trans (((HB.out.cell (World.block_lt_of_cell? w _ hw152_4)).trans hw152_4))⟩ (fun hHeld => ?_)
    clear hK K
    refine norm_ (a' := ?_) ?_ ?_
    rotate_left
    · show Act.put _ (some 20) _ = _
      simp only [Act.put, List.setIfInBounds_toArray, List.set_cons_zero, List.set_cons_succ, i64_w, i32_w]
      rfl
    refine one_ (i := 8) (N := some 21) #[true, true, true, true, true, true, true, true, true, false, false] rfl rfl (one_of HT_.out (by kernel_rfl)) (by decide) (fun K hK => ?_)
    refine Kd.R_append_step k53 (w0 := w) w.heap.size (by rfl) (.tmp 14) (.tmp 20) 27 53 (.agg #[(.int .u64 0), (.int .u64 0), (.int .u64 0), (.int .u64 0), (.int .i64 0)]) 40 rfl Try.underlying27 info53 rfl (by decide) (by omega) u152000 x152000_1 (⟨(rd_T53 l0_0 x4_1).f0, (rd_T53 l0_0 x4_1).f1, (rd_T53 l0_0 x4_1).f2, (rd_T53 l0_0 x4_1).f3, (rd_T53 l0_0 x4_1).f4⟩ : S53) [.int .u64 ((rd_T53 l0_0 x4_1).f0), .int .u64 ((rd_T53 l0_0 x4_1).f1), .int .u64 ((rd_T53 l0_0 x4_1).f2), .int .u64 ((rd_T53 l0_0 x4_1).f3), .int .i64 ((rd_T53 l0_0 x4_1).f4)] (fun _ => True) (fun _ => False) rfl rfl ?aP (fun _ hk => hk.elim) ?aF ?aO ?aB ?aS ?aL ?_
    (case aP => exact k53_mkM _ _ _ (⟨(rd_T53 l0_0 x4_1).f0, (rd_T53 l0_0 x4_1).f1, (rd_T53 l0_0 x4_1).f2, (rd_T53 l0_0 x4_1).f3, (rd_T53 l0_0 x4_1).f4⟩ : S53))
    (case aB => exact u4_0)
    (case aF => exact (fun _ _ => trivial))
    (case aO => exact (by (with_reducible repeat (first | apply Kd.R_alloc | apply Kd.R_drewN | apply Kd.R_drew)); exact HO_152000.out))
    (case aS => exact (below_size u4_0))
    (case aL => have := LMc10.out; omega)
    intro v154 w15 ho hb hg hat
    rw [← Ny153.out] at ho
    have n0_ := Aside0.mk (blk_grown (g := gb149) (o := .cells #[.slice (some ad152) l0_0.length c0_0] 29 (0, 0)) u4_1 hg (Kd.R_ne HO_152000.out BK149.out (by decide)))
    have n1_ := Aside0.mk (blk_grown (g := gb150) (o := .cells #[.slice none 0 0] 29 (0, 0)) u4_5 hg (Kd.R_ne HO_152000.out BK150.out (by decide)))
    have n2_ := Aside0.mk (blk_grown (g := gb151) (o := .cells #[u152000] 29 (0, 0)) (by (with_reducible repeat (first | refine blk_drewN ?_ _ | refine blk_drew ?_ | refine blk_alloc ?_ _)); exact BK151.out) hg (Kd.R_ne HO_152000.out BK151.out (by decide)))
    have n3_ := Aside0.mk (hb)
    have n4_ := Aside0.mk (ho)
    clear BK149
    clear BK150
    clear BK151
    clear HB
    clear HO_152000
    have BK149 := n0_
    have BK150 := n1_
    have BK151 := n2_
    have HB := n3_
    have HO155 := n4_
    clear n0_ n1_ n2_ n3_ n4_
    clear ho hb hg hat
    obtain ⟨Ao16, co16, eo16⟩ := Kd.R_slice HO155.out
    (first | subst eo16 | (injection eo16 with f1_ f2_ f3_; have f4_ := f1_.symm; have f5_ := f3_.symm; clear f1_ f2_ f3_; subst f4_; subst f5_))
    refine hK.out _ _ ⟨(blk_cell BK151.out 0).trans rfl, (blk_cell BK149.out 0).trans rfl, ((HB.out.cell (World.block_lt_of_cell? w _ hw152_0)).trans hw152_0), ((HB.out.cell (World.block_lt_of_cell? w _ hw152_1)).trans hw152_1), ((HB.out.cell (World.block_lt_of_cell? w _ hw152_2)).trans hw152_2), ((HB.out.cell (World.block_lt_of_cell? w _ hw152_3)).trans hw152_3), ((HB.out.cell (World.block_lt_of_cell? w _ hw152_4)).trans hw152_4)⟩ (fun hHeld => ?_)
    clear hK K
    refine norm_ (a' := ?_) ?_ ?_
    rotate_left
    · show Act.put _ (some 21) _ = _
      simp only [Act.put, List.setIfInBounds_toArray, List.set_cons_zero, List.set_cons_succ, i64_w, i32_w]
      rfl
    refine pure_ (i := 9) (N := some 22) (v := ?_) (a' := ?_) #[true, true, true, true, true, true, true, true, true, true, false] rfl rfl (any_of HT_.out (by kernel_rfl)) (fun _ _ _ h => h) (Or.inl ⟨by rfl, ?_⟩) ?_ ?_
    rotate_left
    · intro w'
      go_simp
      with_reducible rfl
    rotate_left
    · simp only [Act.put, List.setIfInBounds_toArray, List.set_cons_zero, List.set_cons_succ, i64_w, i32_w]
      rfl
    refine last_ (i := 10) (N := none) #[true, true, true, true, true, true, true, true, true, true, true] rfl rfl (one_of HT_.out (by kernel_rfl)) (by decide) (fun K hK => ?_)
    have hs17 : w15.cell? ⟨gb151, 0, none⟩ = some (u152000) := (blk_cell BK151.out 0).trans rfl
    have hfs17 := blk_frozen BK151.out 0
    have hns17_0 := NB149_151.out
    have hns17_1 := NB150_151.out
    have hms17_0 := NB151_149.out
    have hms17_1 := NB151_150.out
    refine skip_ (w1 := ?_) (by rfl) rfl ?_ ?_
    rotate_left
    · go_simp
      rfl
    refine hK.out _ _ ?_
    clear hK K
    refine done_ (done_of HT_.out (by kernel_rfl)) ?_
    try go_wp2
    go_roundg k1
    case measure => have := HK1.out; omega
    case rel => exact ⟨(wrap64 (x4_1 + 1)), (y153), (.slice Ao16 y153.length co16), u4_10, H', ⟨by have := HK1.out; omega⟩, ⟨(by (with_reducible repeat (first | apply Kd.R_alloc | apply Kd.R_drewN | apply Kd.R_drew)); exact Kd.R_mono (Kd.R_far (p := ⟨gb151, 0, none⟩) (Kd.R_types HO155.out BK151.out (by decide)) (fun _ hk => hk.2) (.slice Ao16 y153.length co16)) (fun _ hk => trivial))⟩, ⟨u4_7⟩, ⟨u4_8⟩, ⟨(by (with_reducible repeat (first | refine blk_drewN ?_ _ | refine blk_drew ?_ | refine blk_alloc ?_ _)); refine blk_put (cs := #[u152000]) ?_ 0 _ rfl; (with_reducible repeat (first | refine blk_drewN ?_ _ | refine blk_drew ?_ | refine blk_alloc ?_ _)); exact BK151.out)⟩, ⟨u4_0⟩⟩

/-! ### spec_l10Find: function 68 -/
def spec_l10Find.l0 : Nat → Int → Int → List (S53) → Option (Int)
  | 0, _, _, _ => none
  | k + 1, x1, x5, x157000 => if x5 < (x157000.length : Int) then (if 0 ≤ x5 then (if ((rd_T53 x157000 x5).f0) = x1 then (some x5) else (spec_l10Find.l0 k x1 (wrap64 (x5 + 1)) x157000)) else (none)) else (some (-1))
def spec_l10Find.f (k : Nat) (l0_0 : List (S53)) (a1 : Int) : Option (Int) := spec_l10Find.l0 k a1 0 l0_0
theorem spec_l10Find.mono_l : ∀ k, (∀ y0 y1 y2, LeO (spec_l10Find.l0 k y0 y1 y2) (spec_l10Find.l0 (k + 1) y0 y1 y2))
  | 0 => fun _ _ _ r h => by simp [spec_l10Find.l0] at h
  | k + 1 => by
    have ih0 := spec_l10Find.mono_l k
    · intro y0 y1 y2
      unfold spec_l10Find.l0
      repeat' first
      | (with_reducible exact ih0 _ _ _)
      | (with_reducible exact LeO.refl _)
      | (with_reducible exact LeO.none _)
      | (with_reducible refine LeO.ite ?_ ?_)
      | (with_reducible refine LeO.bind ?_ (fun _ => ?_))
      | exact ih0 _ _ _
      | exact LeO.none _
      | refine LeO.ite ?_ ?_
      | refine LeO.bind ?_ (fun _ => ?_)
theorem spec_l10Find.mono : ∀ a0 a1 k, LeO (spec_l10Find.f k a0 a1) (spec_l10Find.f (k + 1) a0 a1) := by
  intro a0 a1 k
  have ih0 := spec_l10Find.mono_l k
  unfold spec_l10Find.f
  repeat' first
      | (with_reducible exact ih0 _ _ _)
      | (with_reducible exact LeO.refl _)
      | (with_reducible exact LeO.none _)
      | (with_reducible refine LeO.ite ?_ ?_)
      | (with_reducible refine LeO.bind ?_ (fun _ => ?_))
      | exact ih0 _ _ _
      | exact LeO.none _
      | refine LeO.ite ?_ ?_
      | refine LeO.bind ?_ (fun _ => ?_)
set_option maxHeartbeats 8000000 in
set_option maxRecDepth 100000 in
theorem spec_l10Find.calls (k : Nat) (A0_0 : Option Addr) (c0_0 : Nat) (l0_0 : List (S53)) (a1 : Int) (r : Int) (w : World) (hr0_0 : Kd.C k53 w A0_0 l0_0.length l0_0) (hc0_0 : l0_0.length ≤ c0_0) (h : spec_l10Find.f k l0_0 a1 = some r) :
    Calls Try.prog 68 #[.agg #[.slice A0_0 l0_0.length c0_0], .int .u64 a1] w fun e w' => e = .returned (.int .i64 r) ∧ Below w.heap.size w w' := by
  have hu29 := Try.underlying29
  have HR0_0 := Aside0.mk hr0_0
  have HC0_0 := Aside0.mk hc0_0
  clear hr0_0 hc0_0
  have HB := Aside0.mk (Below.refl w.heap.size w)
  have H : (spec_l10Find.l0 k a1 0 l0_0) = some r := h
  clear h
  have H' := Aside0.mk H
  clear H
  go_enter Try.func68, Try.ntmps68
  go_wp2_with (first | ((with_reducible refine gate_dst (N := 2) rfl ?_); refine box_event ?hg (N := 2) ?hd (cs := #[.slice A0_0 l0_0.length c0_0]) (t := 29) ?hr ?_; (case hd => rfl); (case hg => rfl); (case hr => first | (go_simp; done) | (go_simp; rfl)); intro gb156 hg w3 hbox hb; have n0_ := Aside0.mk (below_step u4_2 hb); have n1_ := Aside0.mk (hbox); have n2_ := Aside0.mk ((by rw [hg]; exact (below_size u4_2) : w.heap.size ≤ gb156)); have n3_ := Aside0.mk ((by rw [hg]; exact (below_size u4_2) : w.heap.size ≤ gb156)); clear HB; have HB := n0_; have BK156 := n1_; have GW156 := n2_; have GE156 := n3_; clear n0_ n1_ n2_ n3_; clear hb hbox hg))
  go_loopg [5] k (fun kq v5 w' => ∃ (x5_1 : Int), v5 = .int .i64 x5_1 ∧ Aside0 (spec_l10Find.l0 kq a1 x5_1 l0_0 = some r) ∧ Aside0 (kq ≤ k) ∧ Aside0 (w'.heap[gb156]? = some (.cells #[(.slice A0_0 l0_0.length c0_0)] 29 (0, 0))) ∧ Aside0 (Below w.heap.size w w'))
  case atStart => exact ⟨(0), u4_10, H', ⟨Nat.le_refl _⟩, ⟨u4_11⟩, ⟨u4_3⟩⟩
  clear H'
  try clear p2
  obtain ⟨x5_1, rfl, HA, HK1, BK156, HB⟩ := hrel
  cases gk with
  | zero => exact absurd HA.out (by simp [spec_l10Find.l0])
  | succ k1 =>
    have H := HA.out
    clear HA
    simp only [spec_l10Find.l0] at H
    by_cases c4 : x5_1 < (l0_0.length : Int)
    rotate_left
    · rw [if_neg c4] at H
      have c4b0 : decide (x5_1 < (l0_0.length : Int)) = false := decide_eq_false c4
      clear c4
      obtain rfl := Option.some.inj H
      have hcz8_0 : wr.cell? ⟨gb156, 0, none⟩ = some (.slice A0_0 l0_0.length c0_0) := (blk_cell BK156.out 0).trans rfl
      have hfz8_0 := blk_frozen BK156.out 0
      go_wp2
      go_ret
      exact ⟨by first | rfl | (simp [errW_none, errW_some] <;> rfl) | (simp [*, errW_none, errW_some] <;> rfl), u4_3⟩
    rw [if_pos c4] at H
    have c4b0 : decide (x5_1 < (l0_0.length : Int)) = true := decide_eq_true c4
    clear c4
    by_cases c5 : 0 ≤ x5_1
    rotate_left
    · rw [if_neg c5] at H
      exact absurd H (by simp)
    rw [if_pos c5] at H
    have c5b0 : decide (0 ≤ x5_1) = true := decide_eq_true c5
    clear c5
    have H9 := Aside0.mk H
    clear H
    have hcz6_0 : wr.cell? ⟨gb156, 0, none⟩ = some (.slice A0_0 l0_0.length c0_0) := (blk_cell BK156.out 0).trans rfl
    have hfz6_0 := blk_frozen BK156.out 0
    have p157 : 0 ≤ (x5_1 : Int) := of_decide_eq_true u4_9
    have q157 : x5_1 < (l0_0.length : Int) := of_decide_eq_true u4_9
    obtain ⟨ad157, e157, hx157_0, hx157_1, hx157_2, hx157_3, hx157_4⟩ := at_T53 HR0_0.out x5_1 p157 q157
    cases e157
    replace hx157_0 := (HB.out.cell (World.block_lt_of_cell? w _ hx157_0)).trans hx157_0
    replace hx157_1 := (HB.out.cell (World.block_lt_of_cell? w _ hx157_1)).trans hx157_1
    replace hx157_2 := (HB.out.cell (World.block_lt_of_cell? w _ hx157_2)).trans hx157_2
    replace hx157_3 := (HB.out.cell (World.block_lt_of_cell? w _ hx157_3)).trans hx157_3
    replace hx157_4 := (HB.out.cell (World.block_lt_of_cell? w _ hx157_4)).trans hx157_4
    replace p157 := eq_true p157
    replace q157 := eq_true q157
    go_upto_if 20 with (fail)
    have H := H9.out
    clear H9
    by_cases c7 : ((rd_T53 l0_0 x5_1).f0) = a1
    · rw [if_pos c7] at H
      have c7b0 : (((rd_T53 l0_0 x5_1).f0) == a1) = true := beq_iff_eq.mpr c7
      have c7b1 : (((rd_T53 l0_0 x5_1).f0) != a1) = false := bne_eq_false_iff_eq.mpr c7
      clear c7
      (first | rw [c7b0] | (simp only [i64_w, i32_w]; rw [c7b0]) | skip)
      obtain rfl := Option.some.inj H
      go_wp2
      go_ret
      exact ⟨by first | rfl | (simp [errW_none, errW_some] <;> rfl) | (simp [*, errW_none, errW_some] <;> rfl), u4_3⟩
    rw [if_neg c7] at H
    have c7b0 : (((rd_T53 l0_0 x5_1).f0) == a1) = false := beq_eq_false_iff_ne.mpr c7
    have c7b1 : (((rd_T53 l0_0 x5_1).f0) != a1) = true := bne_iff_ne.mpr c7
    (first | rw [c7b0] | (simp only [i64_w, i32_w]; rw [c7b0]) | skip)
    have H' := Aside0.mk H
    clear H
    go_wp2
    go_roundg k1
    case measure => have := HK1.out; omega
    case rel => exact ⟨(wrap64 (x5_1 + 1)), u4_10, H', ⟨by have := HK1.out; omega⟩, ⟨u4_11⟩, ⟨u4_3⟩⟩

end Go.Proofs.Ytdbfjakhkclggaa.QFnExactOpenAccount
