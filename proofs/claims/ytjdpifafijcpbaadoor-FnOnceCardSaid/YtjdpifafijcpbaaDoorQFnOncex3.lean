-- Printed by the session's own program wip/prx.py.
import Derived.Test.YtjdpifafijcpbaaDoorSqFnOnce
import Derived.Test.YtjdpifafijcpbaaDoorQFnOncex0
import Derived.Test.YtjdpifafijcpbaaDoorQFnOncex1
import Derived.Test.YtjdpifafijcpbaaDoorQFnOncex2
namespace Go.Proofs.YtjdpifafijcpbaaDoor.QFnOnce
open Go.RowKit Go.Proofs.YtjdpifafijcpbaaDoorW.PrintWords Go.Proofs.YtjdpifafijcpbaaDoorW.PrintLast Go.Proofs.YtjdpifafijcpbaaDoorW.PrintMore Go.Proofs.YtjdpifafijcpbaaDoor.SqFnOnce
attribute [local go_sem] max2_int min2_int max_two min_two max_three min_three max_four min_four Go.Proofs.YtjdpifafijcpbaaDoor.Set.isSome_setCell
set_option linter.unusedVariables false
set_option linter.unusedSimpArgs false

-- squeezed
theorem u3_1 {P : Prop} (h : P := by (with_reducible repeat (first | refine blk_drewN ?_ _ | refine blk_drew ?_ | refine blk_alloc ?_ _)); exact BK122.out) : P := h
theorem u3_5 {P : Prop} (h : P := by (with_reducible repeat (first | refine blk_drewN ?_ _ | refine blk_drew ?_ | refine blk_alloc ?_ _)); exact BK111.out) : P := h
theorem u3_8 {P : Prop} (h : P := by (with_reducible repeat (first | refine blk_drewN ?_ _ | refine blk_drew ?_ | refine blk_alloc ?_ _)); exact BK118.out) : P := h
theorem u3_10 {P : Prop} (h : P := by (with_reducible repeat (first | refine blk_drewN ?_ _ | refine blk_drew ?_ | refine blk_alloc ?_ _)); exact BK112.out) : P := h
theorem u3_15 {P : Prop} (h : P := by (with_reducible repeat (first | refine blk_drewN ?_ _ | refine blk_drew ?_ | refine blk_alloc ?_ _)); exact BK119.out) : P := h
/-! ### spec_l09Copy: function 28 -/
def spec_l09Copy.l0 : Nat → Int → Int → Int → List (S54) → Int → Int → List (S54) → Option (Int × Int × (List (S54)))
 | 0, _, _, _, _, _, _, _ => none
 | k + 1, x4, x112000, x112001, x112002, x114000, x114001, x114002 => if x4 < (x112002.length : Int) then (if 0 ≤ x4 then (if x114002.length < 3518437208883 then (spec_l09Copy.l0 k (wrap64 (x4 + 1)) x112000 x112001 x112002 x114000 x114001 (x114002 ++ [(⟨(rd_T54 x112002 x4).f0, (rd_T54 x112002 x4).f1, (rd_T54 x112002 x4).f2, (rd_T54 x112002 x4).f3⟩ : S54)])) else (none)) else (none)) else (some (x114000, x114001, x114002))
def spec_l09Copy.f (k : Nat) (a0_0 : Int) (a0_1 : Int) (l0_2 : List (S54)) : Option (Int × Int × (List (S54))) := spec_l09Copy.l0 k 0 a0_0 a0_1 l0_2 a0_0 a0_1 ([] : List (S54))
theorem spec_l09Copy.mono_l : ∀ k, (∀ y0 y1 y2 y3 y4 y5 y6, LeO (spec_l09Copy.l0 k y0 y1 y2 y3 y4 y5 y6) (spec_l09Copy.l0 (k + 1) y0 y1 y2 y3 y4 y5 y6))
 | 0 => fun _ _ _ _ _ _ _ r h => by simp [spec_l09Copy.l0] at h
 | k + 1 => by
   have ih0 := spec_l09Copy.mono_l k
   · intro y0 y1 y2 y3 y4 y5 y6
     unfold spec_l09Copy.l0
     repeat' first
     | (with_reducible exact ih0 _ _ _ _ _ _ _)
     | (with_reducible exact LeO.refl _)
     | (with_reducible exact LeO.none _)
     | (with_reducible refine LeO.ite ?_ ?_)
     | (with_reducible refine LeO.bind ?_ (fun _ => ?_))
     | exact ih0 _ _ _ _ _ _ _
     | exact LeO.none _
     | refine LeO.ite ?_ ?_
     | refine LeO.bind ?_ (fun _ => ?_)
theorem spec_l09Copy.mono : ∀ a0 a1 a2 k, LeO (spec_l09Copy.f k a0 a1 a2) (spec_l09Copy.f (k + 1) a0 a1 a2) := by
 intro a0 a1 a2 k
 have ih0 := spec_l09Copy.mono_l k
 unfold spec_l09Copy.f
 repeat' first
     | (with_reducible exact ih0 _ _ _ _ _ _ _)
     | (with_reducible exact LeO.refl _)
     | (with_reducible exact LeO.none _)
     | (with_reducible refine LeO.ite ?_ ?_)
     | (with_reducible refine LeO.bind ?_ (fun _ => ?_))
     | exact ih0 _ _ _ _ _ _ _
     | exact LeO.none _
     | refine LeO.ite ?_ ?_
     | refine LeO.bind ?_ (fun _ => ?_)
def spec_l09Copy.T5 : Bool × List (List Nat × List Nat) := (true, [([], []), ([0], [0]), ([], []), ([2], [2]), ([], []), ([3, 4], [3, 4]), ([5], [5]), ([6], [6]), ([1, 7], [1, 7]), ([0, 1, 2, 3, 4, 5, 6, 7, 8], []), ([9, 8, 8, 0, 1, 2, 3, 4, 5, 6, 7, 8], [8, 9])])
def spec_l09Copy.B5 : List Nat := [0, 1, 0, 4, 0, 28, 60, 124, 255, 511, 1023]
theorem spec_l09Copy.tab5 : rtab .any (opsOf Tryd.f28 5) = spec_l09Copy.T5 := by kernel_rfl
theorem spec_l09Copy.bits5 : waitsOk spec_l09Copy.T5.2 spec_l09Copy.B5 = true := by kernel_rfl
set_option maxHeartbeats 8000000 in
set_option maxRecDepth 100000 in
theorem spec_l09Copy.calls (k : Nat) (a0_0 : Int) (a0_1 : Int) (A0_2 : Option Addr) (c0_2 : Nat) (l0_2 : List (S54)) (r1 : Int) (r2 : Int) (r3 : List (S54)) (w : World) (hr0_2 : Kd.C k54 w A0_2 l0_2.length l0_2) (hc0_2 : l0_2.length ≤ c0_2) (h : spec_l09Copy.f k a0_0 a0_1 l0_2 = some (r1, r2, r3)) :
   Calls Tryd.prog 28 #[.agg #[.int .i64 a0_0, .int .i64 a0_1, .slice A0_2 l0_2.length c0_2]] w fun e w' => ∃ v2_ : Value, e = .returned (.agg #[.int .i64 r1, .int .i64 r2, v2_]) ∧ Kd.R k54 54 w' w.heap.size (fun _ => True) v2_ r3 ∧ Below w.heap.size w w' := by
 have hu30 := Tryd.underlying30
 have hu54 := Tryd.underlying54
 have HR0_2 := am hr0_2
 have HC0_2 := am hc0_2
 clear hr0_2 hc0_2
 have HB := am (Below.refl w.heap.size w)
 have H : (spec_l09Copy.l0 k 0 a0_0 a0_1 l0_2 a0_0 a0_1 ([] : List (S54))) = some (r1, r2, r3) := h
 clear h
 have H' := am H
 clear H
 go_enter Tryd.func28, Tryd.ntmps28
 go_wp2_with (first | ((with_reducible refine gate_dst (N := 1) rfl ?_); refine box_event ?hg (N := 1) ?hd (cs := #[.int .i64 a0_0, .int .i64 a0_1, .slice A0_2 l0_2.length c0_2]) (t := 30) ?hr ?_; (case hd => rfl); (case hg => rfl); (case hr => first | (go_simp; done) | (go_simp; rfl)); intro gb111 hg w2 hbox hb; have BK111 := am (hbox); have GW111 := am ((by rw [hg]; exact (below_size q0) : w.heap.size ≤ gb111)); have GE111 := am ((by rw [hg]; exact (below_size q0) : w.heap.size ≤ gb111)); replace HB := am (below_step q0 hb); clear hb hbox hg) | ((with_reducible refine gate_dst (N := 2) rfl ?_); refine box_event ?hg (N := 2) ?hd (cs := #[.int .i64 0, .int .i64 0, .slice none 0 0]) (t := 30) ?hr ?_; (case hd => rfl); (case hg => rfl); (case hr => first | (go_simp; done) | (go_simp; rfl)); intro gb112 hg w3 hbox hb; have BK112 := am (hbox); have GW112 := am ((by rw [hg]; exact (below_size q0) : w.heap.size ≤ gb112)); have GE112 := am ((by rw [hg]; exact (below_size q0) : w.heap.size ≤ gb112)); replace HB := am (below_step q0 hb); have NB111_112 := am ((by rw [hg]; exact Nat.ne_of_lt (blk_lt (g := gb111) (o := .cells #[.int .i64 a0_0, .int .i64 a0_1, .slice A0_2 l0_2.length c0_2] 30 (0, 0)) u3_5) : gb111 ≠ gb112)); have NB112_111 := am ((by rw [hg]; exact Nat.ne_of_gt (blk_lt (g := gb111) (o := .cells #[.int .i64 a0_0, .int .i64 a0_1, .slice A0_2 l0_2.length c0_2] 30 (0, 0)) u3_5) : gb112 ≠ gb111)); replace BK111 := am (blk_below (g := gb111) (o := .cells #[.int .i64 a0_0, .int .i64 a0_1, .slice A0_2 l0_2.length c0_2] 30 (0, 0)) u3_5 hb); clear hb hbox hg; have hnb4 := NB111_112.out; have hnc4 := NB112_111.out; obtain ⟨hcz5_0, hcz5_1, hcz5_2, hfz5_0, hfz5_1, hfz5_2⟩ := bc3f w3 BK111.out) | ((with_reducible refine gate_dst (N := 3) rfl ?_); refine box_event ?hg (N := 3) ?hd (cs := #[.int .i64 0, .int .i64 0, .slice none 0 0]) (t := 30) ?hr ?_; (case hd => rfl); (case hg => rfl); (case hr => first | (go_simp; done) | (go_simp; rfl)); intro gb113 hg w6 hbox hb; have BK113 := am (hbox); have GW113 := am ((by rw [hg]; exact (below_size q0) : w.heap.size ≤ gb113)); have GE113 := am ((by rw [hg]; exact (below_size q0) : w.heap.size ≤ gb113)); replace HB := am (below_step q0 hb); have NB111_113 := am ((by rw [hg]; exact Nat.ne_of_lt (blk_lt (g := gb111) (o := .cells #[.int .i64 a0_0, .int .i64 a0_1, .slice A0_2 l0_2.length c0_2] 30 (0, 0)) u3_5) : gb111 ≠ gb113)); have NB113_111 := am ((by rw [hg]; exact Nat.ne_of_gt (blk_lt (g := gb111) (o := .cells #[.int .i64 a0_0, .int .i64 a0_1, .slice A0_2 l0_2.length c0_2] 30 (0, 0)) u3_5) : gb113 ≠ gb111)); replace BK111 := am (blk_below (g := gb111) (o := .cells #[.int .i64 a0_0, .int .i64 a0_1, .slice A0_2 l0_2.length c0_2] 30 (0, 0)) u3_5 hb); have NB112_113 := am ((by rw [hg]; exact Nat.ne_of_lt (blk_lt (g := gb112) (o := .cells #[.int .i64 0, .int .i64 0, .slice none 0 0] 30 (0, 0)) u3_10) : gb112 ≠ gb113)); have NB113_112 := am ((by rw [hg]; exact Nat.ne_of_gt (blk_lt (g := gb112) (o := .cells #[.int .i64 0, .int .i64 0, .slice none 0 0] 30 (0, 0)) u3_10) : gb113 ≠ gb112)); replace BK112 := am (blk_below (g := gb112) (o := .cells #[.int .i64 0, .int .i64 0, .slice none 0 0] 30 (0, 0)) u3_10 hb); clear hb hbox hg; have hnb7 := NB113_111.out; have hnc7 := NB111_113.out; have hnb8 := NB113_112.out; have hnc8 := NB112_113.out; obtain ⟨hcz9_0, hcz9_1, hcz9_2, hfz9_0, hfz9_1, hfz9_2⟩ := bc3f w6 BK113.out))
 go_loopg [4] k (fun kq v4 w' => ∃ (x4_1 : Int) (x114002_1 : List (S54)) (u114002 : Value), v4 = .int .i64 x4_1 ∧ Aside0 (spec_l09Copy.l0 kq x4_1 a0_0 a0_1 l0_2 a0_0 a0_1 x114002_1 = some (r1, r2, r3)) ∧ Aside0 (kq ≤ k) ∧ Aside0 (Kd.R k54 54 w' w.heap.size (fun _ => True) u114002 x114002_1) ∧ Aside0 (w'.heap[gb111]? = some (.cells #[.int .i64 a0_0, .int .i64 a0_1, (.slice A0_2 l0_2.length c0_2)] 30 (0, 0))) ∧ Aside0 (w'.heap[gb112]? = some (.cells #[.int .i64 0, .int .i64 0, (.slice none 0 0)] 30 (0, 0))) ∧ Aside0 (w'.heap[gb113]? = some (.cells #[.int .i64 a0_0, .int .i64 a0_1, u114002] 30 (0, 0))) ∧ Aside0 (Below w.heap.size w w'))
 case atStart => exact ⟨(0), (([] : List (S54))), (.slice none 0 0), q4, H', ⟨Nat.le_refl _⟩, ⟨(by first | exact Kd.R_nil _ _ _ _ _ | exact Kd.N_nil _ _ _ _ _ | exact Kd.V_nil _ _ _ _ _ | exact Kd.Q_nil _ _ _ _ _ | exact Kd.S_nil _ _ _ _ _)⟩, ⟨(by (with_reducible repeat (first | refine blk_drewN ?_ _ | refine blk_drew ?_ | refine blk_alloc ?_ _)); refine blk_far ?_ NB111_113.out _; (with_reducible repeat (first | refine blk_drewN ?_ _ | refine blk_drew ?_ | refine blk_alloc ?_ _)); refine blk_far ?_ NB111_113.out _; (with_reducible repeat (first | refine blk_drewN ?_ _ | refine blk_drew ?_ | refine blk_alloc ?_ _)); refine blk_far ?_ NB111_113.out _; (with_reducible repeat (first | refine blk_drewN ?_ _ | refine blk_drew ?_ | refine blk_alloc ?_ _)); exact BK111.out)⟩, ⟨(by (with_reducible repeat (first | refine blk_drewN ?_ _ | refine blk_drew ?_ | refine blk_alloc ?_ _)); refine blk_far ?_ NB112_113.out _; (with_reducible repeat (first | refine blk_drewN ?_ _ | refine blk_drew ?_ | refine blk_alloc ?_ _)); refine blk_far ?_ NB112_113.out _; (with_reducible repeat (first | refine blk_drewN ?_ _ | refine blk_drew ?_ | refine blk_alloc ?_ _)); refine blk_far ?_ NB112_113.out _; (with_reducible repeat (first | refine blk_drewN ?_ _ | refine blk_drew ?_ | refine blk_alloc ?_ _)); exact BK112.out)⟩, ⟨(by (with_reducible repeat (first | refine blk_drewN ?_ _ | refine blk_drew ?_ | refine blk_alloc ?_ _)); refine blk_put (cs := #[.int .i64 a0_0, .int .i64 a0_1, .slice none 0 0]) ?_ 2 _ rfl; (with_reducible repeat (first | refine blk_drewN ?_ _ | refine blk_drew ?_ | refine blk_alloc ?_ _)); refine blk_put (cs := #[.int .i64 a0_0, .int .i64 0, .slice none 0 0]) ?_ 1 _ rfl; (with_reducible repeat (first | refine blk_drewN ?_ _ | refine blk_drew ?_ | refine blk_alloc ?_ _)); refine blk_put (cs := #[.int .i64 0, .int .i64 0, .slice none 0 0]) ?_ 0 _ rfl; (with_reducible repeat (first | refine blk_drewN ?_ _ | refine blk_drew ?_ | refine blk_alloc ?_ _)); exact BK113.out)⟩, ⟨q0⟩⟩
 clear H'
 try clear hcz5_0
 try clear hcz5_1
 try clear hcz5_2
 try clear hcz9_0
 try clear hcz9_1
 try clear hcz9_2
 try clear hfz5_0
 try clear hfz5_1
 try clear hfz5_2
 try clear hfz9_0
 try clear hfz9_1
 try clear hfz9_2
 obtain ⟨x4_1, x114002_1, u114002, rfl, HA, HK1, HO_114002, BK111, BK112, BK113, HB⟩ := hrel
 cases gk with
 | zero => exact absurd HA.out (by simp [spec_l09Copy.l0])
 | succ k1 =>
   have H := HA.out
   clear HA
   simp only [spec_l09Copy.l0] at H
   by_cases c10 : x4_1 < (l0_2.length : Int)
   rotate_left
   · rw [if_neg c10] at H
     have c10b0 : decide (x4_1 < (l0_2.length : Int)) = false := decide_eq_false c10
     clear c10
     simp only [Option.some.injEq, Prod.mk.injEq] at H
     obtain ⟨rfl, rfl, rfl⟩ := H
     have hnb20 := NB111_112.out
     have hnc20 := NB112_111.out
     have hnb21 := NB111_113.out
     have hnc21 := NB113_111.out
     obtain ⟨hcz22_0, hcz22_1, hcz22_2, hfz22_0, hfz22_1, hfz22_2⟩ := bc3f wr BK111.out
     have hnb23 := NB113_112.out
     have hnc23 := NB112_113.out
     obtain ⟨hcz24_0, hcz24_1, hcz24_2, hfz24_0, hfz24_1, hfz24_2⟩ := bc3f wr BK113.out
     obtain ⟨hcz25_0, hcz25_1, hcz25_2, hfz25_0, hfz25_1, hfz25_2⟩ := bc3f wr BK112.out
     obtain ⟨Ao26, co26, eo26⟩ := Kd.R_slice HO_114002.out
     subst eo26
     go_wp2
     refine bodyPost_ret (results_cell_row rfl _ _ gb112 30 #[.int .i64 a0_0, .int .i64 a0_1, .slice Ao26 x114002_1.length co26] (0, 0) _ rfl (by (with_reducible repeat (first | refine blk_drewN ?_ _ | refine blk_drew ?_ | refine blk_alloc ?_ _)); refine blk_put (cs := #[.int .i64 a0_0, .int .i64 a0_1, .slice none 0 0]) ?_ 2 _ rfl; (with_reducible repeat (first | refine blk_drewN ?_ _ | refine blk_drew ?_ | refine blk_alloc ?_ _)); refine blk_put (cs := #[.int .i64 a0_0, .int .i64 0, .slice none 0 0]) ?_ 1 _ rfl; (with_reducible repeat (first | refine blk_drewN ?_ _ | refine blk_drew ?_ | refine blk_alloc ?_ _)); refine blk_put (cs := #[.int .i64 0, .int .i64 0, .slice none 0 0]) ?_ 0 _ rfl; (with_reducible repeat (first | refine blk_drewN ?_ _ | refine blk_drew ?_ | refine blk_alloc ?_ _)); exact BK112.out) Tryd.underlying30 rfl kr) rfl ?_
     exact ⟨_, er, (by (with_reducible repeat (first | apply Kd.R_alloc | apply Kd.R_drewN | apply Kd.R_drew)); exact Kd.R_mono (Kd.R_far (p := ⟨gb112, 2, none⟩) (Kd.R_far (p := ⟨gb112, 1, none⟩) (Kd.R_far (p := ⟨gb112, 0, none⟩) (Kd.R_types HO_114002.out BK112.out (by decide)) (fun _ hk => hk.2) (.int .i64 a0_0)) (fun _ hk => hk.2) (.int .i64 a0_1)) (fun _ hk => hk.2) (.slice Ao26 x114002_1.length co26)) (fun _ hk => trivial)), q0⟩
   rw [if_pos c10] at H
   have c10b0 : decide (x4_1 < (l0_2.length : Int)) = true := decide_eq_true c10
   clear c10
   by_cases c11 : 0 ≤ x4_1
   rotate_left
   · rw [if_neg c11] at H
     exact absurd H (by simp)
   rw [if_pos c11] at H
   have c11b0 : decide (0 ≤ x4_1) = true := decide_eq_true c11
   clear c11
   by_cases c12 : x114002_1.length < 3518437208883
   rotate_left
   · rw [if_neg c12] at H
     exact absurd H (by simp)
   rw [if_pos c12] at H
   have LMc12 := am c12
   clear c12
   obtain ⟨y115, hy115⟩ : ∃ y_ : List (S54), y_ = (x114002_1 ++ [(⟨(rd_T54 l0_2 x4_1).f0, (rd_T54 l0_2 x4_1).f1, (rd_T54 l0_2 x4_1).f2, (rd_T54 l0_2 x4_1).f3⟩ : S54)]) := ⟨_, rfl⟩
   replace H : (spec_l09Copy.l0 k1 (wrap64 (x4_1 + 1)) a0_0 a0_1 l0_2 a0_0 a0_1 y115) = some (r1, r2, r3) := by first | (rw [hy115]; with_reducible exact H) | (have H2_ := (Option.bind_some _ _).symm.trans H; rw [hy115]; with_reducible exact H2_) | (have H2_ := (Option.bind_some _ _).symm.trans H; with_reducible exact H2_) | with_reducible exact H | (rw [hy115]; exact H) | exact H
   have Ny115 := am hy115
   clear hy115
   have H' := am H
   clear H
   have hnb13 := NB111_112.out
   have hnc13 := NB112_111.out
   have hnb14 := NB111_113.out
   have hnc14 := NB113_111.out
   obtain ⟨hcz15_0, hcz15_1, hcz15_2, hfz15_0, hfz15_1, hfz15_2⟩ := bc3f wr BK111.out
   try go_wp2
   replace HO_114002 := am (Kd.R_drew HO_114002.out)
   replace BK111 := am (blk_drew BK111.out)
   replace BK112 := am (blk_drew BK112.out)
   replace BK113 := am (blk_drew BK113.out)
   replace HB := am (below_drew1 HB.out)
   have p114 : 0 ≤ (x4_1 : Int) := of_decide_eq_true q3
   have q114 : x4_1 < (l0_2.length : Int) := of_decide_eq_true q3
   obtain ⟨ad114, e114, hx114_0, hx114_1, hx114_2, hx114_3⟩ := at_T54 HR0_2.out x4_1 p114 q114
   have hw114_3 := hx114_3
   have hw114_2 := hx114_2
   have hw114_1 := hx114_1
   have hw114_0 := hx114_0
   cases e114
   replace hx114_0 := cm HB.out hx114_0
   replace hx114_1 := cm HB.out hx114_1
   replace hx114_2 := cm HB.out hx114_2
   replace hx114_3 := cm HB.out hx114_3
   replace p114 := eq_true p114
   replace q114 := eq_true q114
   refine start_ (n := 11) (S := fun w' => w'.cell? ⟨gb113, 0, none⟩ = some (.int .i64 a0_0) ∧ w'.cell? ⟨gb113, 1, none⟩ = some (.int .i64 a0_1) ∧ w'.cell? ⟨gb113, 2, none⟩ = some (u114002) ∧ w'.cell? ⟨gb111, 0, none⟩ = some (.int .i64 a0_0) ∧ w'.cell? ⟨gb111, 1, none⟩ = some (.int .i64 a0_1) ∧ w'.cell? ⟨gb111, 2, none⟩ = some (.slice (some ad114) l0_2.length c0_2) ∧ w'.cell? (ad114.add ((x4_1).toNat * 4)) = some (.int .i64 ((rd_T54 l0_2 x4_1).f0)) ∧ w'.cell? ⟨(ad114.add ((x4_1).toNat * 4)).block, (ad114.add ((x4_1).toNat * 4)).off + 1, none⟩ = some (.int .i64 ((rd_T54 l0_2 x4_1).f1)) ∧ w'.cell? ⟨(ad114.add ((x4_1).toNat * 4)).block, (ad114.add ((x4_1).toNat * 4)).off + 2, none⟩ = some (.int .i64 ((rd_T54 l0_2 x4_1).f2)) ∧ w'.cell? ⟨(ad114.add ((x4_1).toNat * 4)).block, (ad114.add ((x4_1).toNat * 4)).off + 3, none⟩ = some (.string ((rd_T54 l0_2 x4_1).f3))) (ds := [10]) b0_11 kr rfl rfl ⟨(blk_cell BK113.out 0).trans rfl, (blk_cell BK113.out 1).trans rfl, (blk_cell BK113.out 2).trans rfl, (blk_cell BK111.out 0).trans rfl, (blk_cell BK111.out 1).trans rfl, (blk_cell BK111.out 2).trans rfl, (cm HB.out hw114_0), (cm HB.out hw114_1), (cm HB.out hw114_2), (cm HB.out hw114_3)⟩ (fun hHeld => ?_); refine with_tabW spec_l09Copy.tab5 spec_l09Copy.bits5 (fun HT_ HW_ => ?_)
   generalize wr.drew = w16 at HO_114002 BK111 BK112 BK113 HB hx114_0 hx114_1 hx114_2 hx114_3 hHeld ⊢
   refine pV 0 17 (bt 1 11) ?_
   refine pV 2 19 bx124 ?_
   refine pV 4 21 bx125 ?_
   refine tV 1 18 bx126 ?_
   refine tV 3 20 (bt 5 11) ?_
   refine pV 5 22 (bt 6 11) ?_
   refine tV 6 23 (bt 7 11) ?_
   refine one_ (i := 7) (N := some 24) b8_11 rfl rfl (one_of HT_.out kr) (by decide) (fun K hK => ?_)
   refine value_ (w1 := ?_) (v := ?_) (by rfl) rfl ?_ ?_
   rotate_left 2
   · go_simp
     constructor
     · rfl
     rfl
   refine hK.out _ _ ⟨(blk_cell (blk_alloc BK113.out _) 0).trans rfl, (blk_cell (blk_alloc BK113.out _) 1).trans rfl, (blk_cell (blk_alloc BK113.out _) 2).trans rfl, (blk_cell (blk_alloc BK111.out _) 0).trans rfl, (blk_cell (blk_alloc BK111.out _) 1).trans rfl, (blk_cell (blk_alloc BK111.out _) 2).trans rfl, (World.cell?_alloc_lt _ _ _ (World.block_lt_of_cell? _ _ ((cm HB.out hw114_0)))).trans ((cm HB.out hw114_0)), (World.cell?_alloc_lt _ _ _ (World.block_lt_of_cell? _ _ ((cm HB.out hw114_1)))).trans ((cm HB.out hw114_1)), (World.cell?_alloc_lt _ _ _ (World.block_lt_of_cell? _ _ ((cm HB.out hw114_2)))).trans ((cm HB.out hw114_2)), (World.cell?_alloc_lt _ _ _ (World.block_lt_of_cell? _ _ ((cm HB.out hw114_3)))).trans ((cm HB.out hw114_3))⟩ (fun hHeld => ?_)
   clear hK K
   refine norm_ (a' := ?_) ?_ ?_
   rotate_left
   · show Act.put _ (some 24) _ = _
     simp only [Act.put, la, lb, lc, i64_w, i32_w]
     rfl
   refine one_ (i := 8) (N := some 25) b9_11 rfl rfl (one_of HT_.out kr) (by decide) (fun K hK => ?_)
   refine Kd.R_append_step k54 (w0 := w) w.heap.size (by rfl) (.tmp 18) (.tmp 24) 28 54 (.agg #[(.int .i64 0), (.int .i64 0), (.int .i64 0), (.string ⟨#[]⟩)]) 40 rfl Tryd.underlying28 info54 rfl (by decide) (by omega) u114002 x114002_1 (⟨(rd_T54 l0_2 x4_1).f0, (rd_T54 l0_2 x4_1).f1, (rd_T54 l0_2 x4_1).f2, (rd_T54 l0_2 x4_1).f3⟩ : S54) [.int .i64 ((rd_T54 l0_2 x4_1).f0), .int .i64 ((rd_T54 l0_2 x4_1).f1), .int .i64 ((rd_T54 l0_2 x4_1).f2), .string ((rd_T54 l0_2 x4_1).f3)] (fun _ => True) (fun _ => False) rfl rfl ?aP (fun _ hk => hk.elim) ?aF ?aO ?aB ?aS ?aL ?_
   (case aP => exact k54_mkM _ _ _ (⟨(rd_T54 l0_2 x4_1).f0, (rd_T54 l0_2 x4_1).f1, (rd_T54 l0_2 x4_1).f2, (rd_T54 l0_2 x4_1).f3⟩ : S54))
   (case aB => exact q0)
   (case aF => exact (fun _ _ => trivial))
   (case aO => exact (by (with_reducible repeat (first | apply Kd.R_alloc | apply Kd.R_drewN | apply Kd.R_drew)); exact HO_114002.out))
   (case aS => exact (below_size q0))
   (case aL => have := LMc12.out; omega)
   intro v116 w17 ho hb hg hat
   rw [← Ny115.out] at ho
   replace BK111 := am (blk_grown (g := gb111) (o := .cells #[.int .i64 a0_0, .int .i64 a0_1, .slice (some ad114) l0_2.length c0_2] 30 (0, 0)) u3_5 hg (Kd.R_ne HO_114002.out BK111.out (by decide)))
   replace BK112 := am (blk_grown (g := gb112) (o := .cells #[.int .i64 0, .int .i64 0, .slice none 0 0] 30 (0, 0)) u3_10 hg (Kd.R_ne HO_114002.out BK112.out (by decide)))
   replace BK113 := am (blk_grown (g := gb113) (o := .cells #[.int .i64 a0_0, .int .i64 a0_1, u114002] 30 (0, 0)) (by (with_reducible repeat (first | refine blk_drewN ?_ _ | refine blk_drew ?_ | refine blk_alloc ?_ _)); exact BK113.out) hg (Kd.R_ne HO_114002.out BK113.out (by decide)))
   replace HB := am (hb)
   have HO117 := am (ho)
   clear HO_114002
   clear ho hb hg hat
   obtain ⟨Ao18, co18, eo18⟩ := Kd.R_slice HO117.out
   (first | subst eo18 | (injection eo18 with f1_ f2_ f3_; have f4_ := f1_.symm; have f5_ := f3_.symm; clear f1_ f2_ f3_; subst f4_; subst f5_))
   refine hK.out _ _ ⟨(blk_cell BK113.out 0).trans rfl, (blk_cell BK113.out 1).trans rfl, (blk_cell BK113.out 2).trans rfl, (blk_cell BK111.out 0).trans rfl, (blk_cell BK111.out 1).trans rfl, (blk_cell BK111.out 2).trans rfl, (cm HB.out hw114_0), (cm HB.out hw114_1), (cm HB.out hw114_2), (cm HB.out hw114_3)⟩ (fun hHeld => ?_)
   clear hK K
   refine norm_ (a' := ?_) ?_ ?_
   rotate_left
   · show Act.put _ (some 25) _ = _
     simp only [Act.put, la, lb, lc, i64_w, i32_w]
     rfl
   refine pV 9 26 (bt 10 11) ?_
   refine last_ (i := 10) (N := none) b11_11 rfl rfl (one_of HT_.out kr) (by decide) (fun K hK => ?_)
   have hs19 : w17.cell? ⟨gb113, 2, none⟩ = some (u114002) := (blk_cell BK113.out 2).trans rfl
   have hfs19 := blk_frozen BK113.out 2
   have hns19_0 := NB111_113.out
   have hns19_1 := NB112_113.out
   have hms19_0 := NB113_111.out
   have hms19_1 := NB113_112.out
   refine skip_ (w1 := ?_) (by rfl) rfl ?_ ?_
   rotate_left
   · go_simp
     rfl
   refine hK.out _ _ ?_
   clear hK K
   refine done_ (done_of HT_.out kr) ?_
   try go_wp2
   go_roundg k1
   case measure => have := HK1.out; omega
   case rel => exact ⟨(wrap64 (x4_1 + 1)), (y115), (.slice Ao18 y115.length co18), q4, H', ⟨by have := HK1.out; omega⟩, ⟨(by (with_reducible repeat (first | apply Kd.R_alloc | apply Kd.R_drewN | apply Kd.R_drew)); exact Kd.R_mono (Kd.R_far (p := ⟨gb113, 2, none⟩) (Kd.R_types HO117.out BK113.out (by decide)) (fun _ hk => hk.2) (.slice Ao18 y115.length co18)) (fun _ hk => trivial))⟩, ⟨(by (with_reducible repeat (first | refine blk_drewN ?_ _ | refine blk_drew ?_ | refine blk_alloc ?_ _)); refine blk_far ?_ NB111_113.out _; (with_reducible repeat (first | refine blk_drewN ?_ _ | refine blk_drew ?_ | refine blk_alloc ?_ _)); exact BK111.out)⟩, ⟨(by (with_reducible repeat (first | refine blk_drewN ?_ _ | refine blk_drew ?_ | refine blk_alloc ?_ _)); refine blk_far ?_ NB112_113.out _; (with_reducible repeat (first | refine blk_drewN ?_ _ | refine blk_drew ?_ | refine blk_alloc ?_ _)); exact BK112.out)⟩, ⟨(by (with_reducible repeat (first | refine blk_drewN ?_ _ | refine blk_drew ?_ | refine blk_alloc ?_ _)); refine blk_put (cs := #[.int .i64 a0_0, .int .i64 a0_1, u114002]) ?_ 2 _ rfl; (with_reducible repeat (first | refine blk_drewN ?_ _ | refine blk_drew ?_ | refine blk_alloc ?_ _)); exact BK113.out)⟩, ⟨q0⟩⟩

/-! ### spec_l09Find: function 51 -/
def spec_l09Find.l0 : Nat → Int → Int → Int → Int → List (S54) → Option (Int × Int × Int × ByteArray)
 | 0, _, _, _, _, _ => none
 | k + 1, x1, x5, x119000, x119001, x119002 => if x5 < (x119002.length : Int) then (if 0 ≤ x5 then (if ((rd_T54 x119002 x5).f0) = x1 then (some ((rd_T54 x119002 x5).f0, (rd_T54 x119002 x5).f1, (rd_T54 x119002 x5).f2, (rd_T54 x119002 x5).f3)) else (spec_l09Find.l0 k x1 (wrap64 (x5 + 1)) x119000 x119001 x119002)) else (none)) else (some (0, 0, 0, (⟨#[]⟩ : ByteArray)))
def spec_l09Find.f (k : Nat) (a0_0 : Int) (a0_1 : Int) (l0_2 : List (S54)) (a1 : Int) : Option (Int × Int × Int × ByteArray) := spec_l09Find.l0 k a1 0 a0_0 a0_1 l0_2
theorem spec_l09Find.mono_l : ∀ k, (∀ y0 y1 y2 y3 y4, LeO (spec_l09Find.l0 k y0 y1 y2 y3 y4) (spec_l09Find.l0 (k + 1) y0 y1 y2 y3 y4))
 | 0 => fun _ _ _ _ _ r h => by simp [spec_l09Find.l0] at h
 | k + 1 => by
   have ih0 := spec_l09Find.mono_l k
   · intro y0 y1 y2 y3 y4
     unfold spec_l09Find.l0
     repeat' first
     | (with_reducible exact ih0 _ _ _ _ _)
     | (with_reducible exact LeO.refl _)
     | (with_reducible exact LeO.none _)
     | (with_reducible refine LeO.ite ?_ ?_)
     | (with_reducible refine LeO.bind ?_ (fun _ => ?_))
     | exact ih0 _ _ _ _ _
     | exact LeO.none _
     | refine LeO.ite ?_ ?_
     | refine LeO.bind ?_ (fun _ => ?_)
theorem spec_l09Find.mono : ∀ a0 a1 a2 a3 k, LeO (spec_l09Find.f k a0 a1 a2 a3) (spec_l09Find.f (k + 1) a0 a1 a2 a3) := by
 intro a0 a1 a2 a3 k
 have ih0 := spec_l09Find.mono_l k
 unfold spec_l09Find.f
 repeat' first
     | (with_reducible exact ih0 _ _ _ _ _)
     | (with_reducible exact LeO.refl _)
     | (with_reducible exact LeO.none _)
     | (with_reducible refine LeO.ite ?_ ?_)
     | (with_reducible refine LeO.bind ?_ (fun _ => ?_))
     | exact ih0 _ _ _ _ _
     | exact LeO.none _
     | refine LeO.ite ?_ ?_
     | refine LeO.bind ?_ (fun _ => ?_)
set_option maxHeartbeats 8000000 in
set_option maxRecDepth 100000 in
theorem spec_l09Find.calls (k : Nat) (a0_0 : Int) (a0_1 : Int) (A0_2 : Option Addr) (c0_2 : Nat) (l0_2 : List (S54)) (a1 : Int) (r1 : Int) (r2 : Int) (r3 : Int) (r4 : ByteArray) (w : World) (hr0_2 : Kd.C k54 w A0_2 l0_2.length l0_2) (hc0_2 : l0_2.length ≤ c0_2) (h : spec_l09Find.f k a0_0 a0_1 l0_2 a1 = some (r1, r2, r3, r4)) :
   Calls Tryd.prog 51 #[.agg #[.int .i64 a0_0, .int .i64 a0_1, .slice A0_2 l0_2.length c0_2], .int .i64 a1] w fun e w' => e = .returned (.agg #[.int .i64 r1, .int .i64 r2, .int .i64 r3, .string r4]) ∧ Below w.heap.size w w' := by
 have hu30 := Tryd.underlying30
 have hu54 := Tryd.underlying54
 have HR0_2 := am hr0_2
 have HC0_2 := am hc0_2
 clear hr0_2 hc0_2
 have HB := am (Below.refl w.heap.size w)
 have H : (spec_l09Find.l0 k a1 0 a0_0 a0_1 l0_2) = some (r1, r2, r3, r4) := h
 clear h
 have H' := am H
 clear H
 go_enter Tryd.func51, Tryd.ntmps51
 go_wp2_with (first | ((with_reducible refine gate_dst (N := 2) rfl ?_); refine box_event ?hg (N := 2) ?hd (cs := #[.int .i64 a0_0, .int .i64 a0_1, .slice A0_2 l0_2.length c0_2]) (t := 30) ?hr ?_; (case hd => rfl); (case hg => rfl); (case hr => first | (go_simp; done) | (go_simp; rfl)); intro gb118 hg w3 hbox hb; have BK118 := am (hbox); have GW118 := am ((by rw [hg]; exact (below_size q0) : w.heap.size ≤ gb118)); have GE118 := am ((by rw [hg]; exact (below_size q0) : w.heap.size ≤ gb118)); replace HB := am (below_step q0 hb); clear hb hbox hg) | ((with_reducible refine gate_dst (N := 4) rfl ?_); refine box_event ?hg (N := 4) ?hd (cs := #[.int .i64 0, .int .i64 0, .int .i64 0, .string (⟨#[]⟩ : ByteArray)]) (t := 54) ?hr ?_; (case hd => rfl); (case hg => rfl); (case hr => first | (go_simp; done) | (go_simp; rfl)); intro gb119 hg w4 hbox hb; have BK119 := am (hbox); have GW119 := am ((by rw [hg]; exact (below_size q0) : w.heap.size ≤ gb119)); have GE119 := am ((by rw [hg]; exact (below_size q0) : w.heap.size ≤ gb119)); replace HB := am (below_step q0 hb); have NB118_119 := am ((by rw [hg]; exact Nat.ne_of_lt (blk_lt (g := gb118) (o := .cells #[.int .i64 a0_0, .int .i64 a0_1, .slice A0_2 l0_2.length c0_2] 30 (0, 0)) u3_8) : gb118 ≠ gb119)); have NB119_118 := am ((by rw [hg]; exact Nat.ne_of_gt (blk_lt (g := gb118) (o := .cells #[.int .i64 a0_0, .int .i64 a0_1, .slice A0_2 l0_2.length c0_2] 30 (0, 0)) u3_8) : gb119 ≠ gb118)); replace BK118 := am (blk_below (g := gb118) (o := .cells #[.int .i64 a0_0, .int .i64 a0_1, .slice A0_2 l0_2.length c0_2] 30 (0, 0)) u3_8 hb); clear hb hbox hg))
 go_loopg [5] k (fun kq v5 w' => ∃ (x5_1 : Int) (x120000_1 : Int) (x120001_1 : Int) (x120002_1 : Int) (x120003_1 : ByteArray), v5 = .int .i64 x5_1 ∧ Aside0 (spec_l09Find.l0 kq a1 x5_1 a0_0 a0_1 l0_2 = some (r1, r2, r3, r4)) ∧ Aside0 (kq ≤ k) ∧ Aside0 (w'.heap[gb118]? = some (.cells #[.int .i64 a0_0, .int .i64 a0_1, (.slice A0_2 l0_2.length c0_2)] 30 (0, 0))) ∧ Aside0 (w'.heap[gb119]? = some (.cells #[.int .i64 x120000_1, .int .i64 x120001_1, .int .i64 x120002_1, .string x120003_1] 54 (0, 0))) ∧ Aside0 (Below w.heap.size w w'))
 case atStart => exact ⟨(0), (0), (0), (0), ((⟨#[]⟩ : ByteArray)), q4, H', ⟨Nat.le_refl _⟩, ⟨u3_8⟩, ⟨u3_15⟩, ⟨q0⟩⟩
 clear H'
 obtain ⟨x5_1, x120000_1, x120001_1, x120002_1, x120003_1, rfl, HA, HK1, BK118, BK119, HB⟩ := hrel
 cases gk with
 | zero => exact absurd HA.out (by simp [spec_l09Find.l0])
 | succ k1 =>
   have H := HA.out
   clear HA
   simp only [spec_l09Find.l0] at H
   by_cases c5 : x5_1 < (l0_2.length : Int)
   rotate_left
   · rw [if_neg c5] at H
     have c5b0 : decide (x5_1 < (l0_2.length : Int)) = false := decide_eq_false c5
     clear c5
     simp only [Option.some.injEq, Prod.mk.injEq] at H
     obtain ⟨rfl, rfl, rfl, rfl⟩ := H
     have hnb13 := NB118_119.out
     have hnc13 := NB119_118.out
     obtain ⟨hcz14_0, hcz14_1, hcz14_2, hfz14_0, hfz14_1, hfz14_2⟩ := bc3f wr BK118.out
     obtain ⟨hcz15_0, hcz15_1, hcz15_2, hcz15_3, hfz15_0, hfz15_1, hfz15_2, hfz15_3⟩ := bc4f wr BK119.out
     go_wp2
     refine bodyPost_ret (results_cell_row rfl _ _ gb119 54 #[.int .i64 0, .int .i64 0, .int .i64 0, .string (⟨#[]⟩ : ByteArray)] (0, 0) _ rfl (by (with_reducible repeat (first | refine blk_drewN ?_ _ | refine blk_drew ?_ | refine blk_alloc ?_ _)); refine blk_put (cs := #[.int .i64 0, .int .i64 0, .int .i64 0, .string x120003_1]) ?_ 3 _ rfl; (with_reducible repeat (first | refine blk_drewN ?_ _ | refine blk_drew ?_ | refine blk_alloc ?_ _)); refine blk_put (cs := #[.int .i64 0, .int .i64 0, .int .i64 x120002_1, .string x120003_1]) ?_ 2 _ rfl; (with_reducible repeat (first | refine blk_drewN ?_ _ | refine blk_drew ?_ | refine blk_alloc ?_ _)); refine blk_put (cs := #[.int .i64 0, .int .i64 x120001_1, .int .i64 x120002_1, .string x120003_1]) ?_ 1 _ rfl; (with_reducible repeat (first | refine blk_drewN ?_ _ | refine blk_drew ?_ | refine blk_alloc ?_ _)); refine blk_put (cs := #[.int .i64 x120000_1, .int .i64 x120001_1, .int .i64 x120002_1, .string x120003_1]) ?_ 0 _ rfl; (with_reducible repeat (first | refine blk_drewN ?_ _ | refine blk_drew ?_ | refine blk_alloc ?_ _)); exact BK119.out) Tryd.underlying54 rfl kr) rfl ?_
     exact ⟨er, q0⟩
   rw [if_pos c5] at H
   have c5b0 : decide (x5_1 < (l0_2.length : Int)) = true := decide_eq_true c5
   clear c5
   by_cases c6 : 0 ≤ x5_1
   rotate_left
   · rw [if_neg c6] at H
     exact absurd H (by simp)
   rw [if_pos c6] at H
   have c6b0 : decide (0 ≤ x5_1) = true := decide_eq_true c6
   clear c6
   have H9 := am H
   clear H
   have hnb7 := NB118_119.out
   have hnc7 := NB119_118.out
   obtain ⟨hcz8_0, hcz8_1, hcz8_2, hfz8_0, hfz8_1, hfz8_2⟩ := bc3f wr BK118.out
   have p120 : 0 ≤ (x5_1 : Int) := of_decide_eq_true q3
   have q120 : x5_1 < (l0_2.length : Int) := of_decide_eq_true q3
   obtain ⟨ad120, e120, hx120_0, hx120_1, hx120_2, hx120_3⟩ := at_T54 HR0_2.out x5_1 p120 q120
   cases e120
   replace hx120_0 := cm HB.out hx120_0
   replace hx120_1 := cm HB.out hx120_1
   replace hx120_2 := cm HB.out hx120_2
   replace hx120_3 := cm HB.out hx120_3
   replace p120 := eq_true p120
   replace q120 := eq_true q120
   go_upto_if 20 with (fail)
   have H := H9.out
   clear H9
   by_cases c9 : ((rd_T54 l0_2 x5_1).f0) = a1
   rotate_left
   · rw [if_neg c9] at H
     have c9b0 : (((rd_T54 l0_2 x5_1).f0) == a1) = false := beq_eq_false_iff_ne.mpr c9
     have c9b1 : (((rd_T54 l0_2 x5_1).f0) != a1) = true := bne_iff_ne.mpr c9
     (first | rw [c9b0] | (simp only [i64_w, i32_w]; rw [c9b0]) | skip)
     have H' := am H
     clear H
     go_wp2
     go_roundg k1
     case measure => have := HK1.out; omega
     case rel => exact ⟨(wrap64 (x5_1 + 1)), (x120000_1), (x120001_1), (x120002_1), (x120003_1), q4, H', ⟨by have := HK1.out; omega⟩, ⟨u3_8⟩, ⟨u3_15⟩, ⟨q0⟩⟩
   rw [if_pos c9] at H
   have c9b0 : (((rd_T54 l0_2 x5_1).f0) == a1) = true := beq_iff_eq.mpr c9
   have c9b1 : (((rd_T54 l0_2 x5_1).f0) != a1) = false := bne_eq_false_iff_eq.mpr c9
   clear c9
   (first | rw [c9b0] | (simp only [i64_w, i32_w]; rw [c9b0]) | skip)
   simp only [Option.some.injEq, Prod.mk.injEq] at H
   obtain ⟨rfl, rfl, rfl, rfl⟩ := H
   have hnb10 := NB118_119.out
   have hnc10 := NB119_118.out
   obtain ⟨hcz11_0, hcz11_1, hcz11_2, hfz11_0, hfz11_1, hfz11_2⟩ := bc3f wr BK118.out
   have p121 : 0 ≤ (x5_1 : Int) := of_decide_eq_true q3
   have q121 : x5_1 < (l0_2.length : Int) := of_decide_eq_true q3
   obtain ⟨ad121, e121, hx121_0, hx121_1, hx121_2, hx121_3⟩ := at_T54 HR0_2.out x5_1 p121 q121
   obtain rfl : ad120 = ad121 := (by injection e121)
   replace hx121_0 := cm HB.out hx121_0
   replace hx121_1 := cm HB.out hx121_1
   replace hx121_2 := cm HB.out hx121_2
   replace hx121_3 := cm HB.out hx121_3
   replace p121 := eq_true p121
   replace q121 := eq_true q121
   obtain ⟨hcz12_0, hcz12_1, hcz12_2, hcz12_3, hfz12_0, hfz12_1, hfz12_2, hfz12_3⟩ := bc4f wr BK119.out
   go_wp2
   refine bodyPost_ret (results_cell_row rfl _ _ gb119 54 #[.int .i64 ((rd_T54 l0_2 x5_1).f0), .int .i64 ((rd_T54 l0_2 x5_1).f1), .int .i64 ((rd_T54 l0_2 x5_1).f2), .string ((rd_T54 l0_2 x5_1).f3)] (0, 0) _ rfl (by (with_reducible repeat (first | refine blk_drewN ?_ _ | refine blk_drew ?_ | refine blk_alloc ?_ _)); refine blk_put (cs := #[.int .i64 ((rd_T54 l0_2 x5_1).f0), .int .i64 ((rd_T54 l0_2 x5_1).f1), .int .i64 ((rd_T54 l0_2 x5_1).f2), .string x120003_1]) ?_ 3 _ rfl; (with_reducible repeat (first | refine blk_drewN ?_ _ | refine blk_drew ?_ | refine blk_alloc ?_ _)); refine blk_put (cs := #[.int .i64 ((rd_T54 l0_2 x5_1).f0), .int .i64 ((rd_T54 l0_2 x5_1).f1), .int .i64 x120002_1, .string x120003_1]) ?_ 2 _ rfl; (with_reducible repeat (first | refine blk_drewN ?_ _ | refine blk_drew ?_ | refine blk_alloc ?_ _)); refine blk_put (cs := #[.int .i64 ((rd_T54 l0_2 x5_1).f0), .int .i64 x120001_1, .int .i64 x120002_1, .string x120003_1]) ?_ 1 _ rfl; (with_reducible repeat (first | refine blk_drewN ?_ _ | refine blk_drew ?_ | refine blk_alloc ?_ _)); refine blk_put (cs := #[.int .i64 x120000_1, .int .i64 x120001_1, .int .i64 x120002_1, .string x120003_1]) ?_ 0 _ rfl; (with_reducible repeat (first | refine blk_drewN ?_ _ | refine blk_drew ?_ | refine blk_alloc ?_ _)); exact BK119.out) Tryd.underlying54 rfl kr) rfl ?_
   exact ⟨er, q0⟩

/-! ### spec_Look: function 29 -/
def spec_Look.j0 : Nat → Int → Int → Bool → Int → Int → List (S54) → Option (Int × ByteArray)
 | 0, _, _, _, _, _, _ => none
 | k + 1, x1, x2, x21, x123000, x123001, x123002 => if x21 = true then (some (4, (⟨#[]⟩ : ByteArray))) else ((spec_l09Find.f k x123000 x123001 x123002 x1).bind fun bt126 => (if x2 = (wrap64 (bt126.2.1 + 1)) then (some (0, (⟨#[]⟩ : ByteArray))) else (if x2 = bt126.2.1 then (some (1, bt126.2.2.2)) else (if x2 < bt126.2.1 then (some (2, (⟨#[]⟩ : ByteArray))) else (some (3, (⟨#[]⟩ : ByteArray)))))))
def spec_Look.f (k : Nat) (a0_0 : Int) (a0_1 : Int) (l0_2 : List (S54)) (a1 : Int) (a2 : Int) : Option (Int × ByteArray) := (spec_SessionsOk.f k a0_0 a0_1 l0_2).bind fun t123 => (if t123 = true then ((spec_l01In.f a1 1 999).bind fun t124 => (if t124 = true then ((spec_l01In.f a2 1 1000000).bind fun t125 => (spec_Look.j0 k a1 a2 (!t125) a0_0 a0_1 l0_2)) else (spec_Look.j0 k a1 a2 true a0_0 a0_1 l0_2))) else (spec_Look.j0 k a1 a2 true a0_0 a0_1 l0_2))
theorem spec_Look.mono_l : ∀ k, (∀ y0 y1 y2 y3 y4 y5, LeO (spec_Look.j0 k y0 y1 y2 y3 y4 y5) (spec_Look.j0 (k + 1) y0 y1 y2 y3 y4 y5))
 | 0 => fun _ _ _ _ _ _ r h => by simp [spec_Look.j0] at h
 | k + 1 => by
   have ih0 := spec_Look.mono_l k
   · intro y0 y1 y2 y3 y4 y5
     unfold spec_Look.j0
     repeat' first
     | (with_reducible exact ih0 _ _ _ _ _ _)
     | (with_reducible exact spec_SessionsOk.mono _ _ _ _)
     | (with_reducible exact spec_l09Find.mono _ _ _ _ _)
     | (with_reducible exact LeO.refl _)
     | (with_reducible exact LeO.none _)
     | (with_reducible refine LeO.ite ?_ ?_)
     | (with_reducible refine LeO.bind ?_ (fun _ => ?_))
     | exact ih0 _ _ _ _ _ _
     | exact spec_SessionsOk.mono _ _ _ _
     | exact spec_l09Find.mono _ _ _ _ _
     | exact LeO.none _
     | refine LeO.ite ?_ ?_
     | refine LeO.bind ?_ (fun _ => ?_)
theorem spec_Look.mono : ∀ a0 a1 a2 a3 a4 k, LeO (spec_Look.f k a0 a1 a2 a3 a4) (spec_Look.f (k + 1) a0 a1 a2 a3 a4) := by
 intro a0 a1 a2 a3 a4 k
 have ih0 := spec_Look.mono_l k
 unfold spec_Look.f
 repeat' first
     | (with_reducible exact ih0 _ _ _ _ _ _)
     | (with_reducible exact spec_SessionsOk.mono _ _ _ _)
     | (with_reducible exact spec_l09Find.mono _ _ _ _ _)
     | (with_reducible exact LeO.refl _)
     | (with_reducible exact LeO.none _)
     | (with_reducible refine LeO.ite ?_ ?_)
     | (with_reducible refine LeO.bind ?_ (fun _ => ?_))
     | exact ih0 _ _ _ _ _ _
     | exact spec_SessionsOk.mono _ _ _ _
     | exact spec_l09Find.mono _ _ _ _ _
     | exact LeO.none _
     | refine LeO.ite ?_ ?_
     | refine LeO.bind ?_ (fun _ => ?_)
set_option maxHeartbeats 8000000 in
set_option maxRecDepth 100000 in
theorem spec_Look.calls (k : Nat) (a0_0 : Int) (a0_1 : Int) (A0_2 : Option Addr) (c0_2 : Nat) (l0_2 : List (S54)) (a1 : Int) (a2 : Int) (r1 : Int) (r2 : ByteArray) (w : World) (hr0_2 : Kd.C k54 w A0_2 l0_2.length l0_2) (hc0_2 : l0_2.length ≤ c0_2) (h : spec_Look.f k a0_0 a0_1 l0_2 a1 a2 = some (r1, r2)) :
   Calls Tryd.prog 29 #[.agg #[.int .i64 a0_0, .int .i64 a0_1, .slice A0_2 l0_2.length c0_2], .int .i64 a1, .int .i64 a2] w fun e w' => e = .returned (.tuple #[.int .i64 r1, .string r2]) ∧ Below w.heap.size w w' := by
 have hu30 := Tryd.underlying30
 have hu54 := Tryd.underlying54
 have HR0_2 := am hr0_2
 have HC0_2 := am hc0_2
 clear hr0_2 hc0_2
 have HB := am (Below.refl w.heap.size w)
 have H : ((spec_SessionsOk.f k a0_0 a0_1 l0_2).bind fun t123 => (if t123 = true then ((spec_l01In.f a1 1 999).bind fun t124 => (if t124 = true then ((spec_l01In.f a2 1 1000000).bind fun t125 => (spec_Look.j0 k a1 a2 (!t125) a0_0 a0_1 l0_2)) else (spec_Look.j0 k a1 a2 true a0_0 a0_1 l0_2))) else (spec_Look.j0 k a1 a2 true a0_0 a0_1 l0_2))) = some (r1, r2) := h
 clear h
 have HC4 := am H
 clear H
 go_enter Tryd.func29, Tryd.ntmps29
 go_upto_region 1 with (first | ((with_reducible refine gate_dst (N := 3) rfl ?_); refine box_event ?hg (N := 3) ?hd (cs := #[.int .i64 a0_0, .int .i64 a0_1, .slice A0_2 l0_2.length c0_2]) (t := 30) ?hr ?_; (case hd => rfl); (case hg => rfl); (case hr => first | (go_simp; done) | (go_simp; rfl)); intro gb122 hg w5 hbox hb; have BK122 := am (hbox); have GW122 := am ((by rw [hg]; exact (below_size q0) : w.heap.size ≤ gb122)); have GE122 := am ((by rw [hg]; exact (below_size q0) : w.heap.size ≤ gb122)); replace HB := am (below_step q0 hb); clear hb hbox hg))
 repeat (go_quiet (first | ((with_reducible refine gate_dst (N := 3) rfl ?_); refine box_event ?hg (N := 3) ?hd (cs := #[.int .i64 a0_0, .int .i64 a0_1, .slice A0_2 l0_2.length c0_2]) (t := 30) ?hr ?_; (case hd => rfl); (case hg => rfl); (case hr => first | (go_simp; done) | (go_simp; rfl)); intro gb122 hg w5 hbox hb; have BK122 := am (hbox); have GW122 := am ((by rw [hg]; exact (below_size q0) : w.heap.size ≤ gb122)); have GE122 := am ((by rw [hg]; exact (below_size q0) : w.heap.size ≤ gb122)); replace HB := am (below_step q0 hb); clear hb hbox hg)); go_upto_region 1 with (first | ((with_reducible refine gate_dst (N := 3) rfl ?_); refine box_event ?hg (N := 3) ?hd (cs := #[.int .i64 a0_0, .int .i64 a0_1, .slice A0_2 l0_2.length c0_2]) (t := 30) ?hr ?_; (case hd => rfl); (case hg => rfl); (case hr => first | (go_simp; done) | (go_simp; rfl)); intro gb122 hg w5 hbox hb; have BK122 := am (hbox); have GW122 := am ((by rw [hg]; exact (below_size q0) : w.heap.size ≤ gb122)); have GE122 := am ((by rw [hg]; exact (below_size q0) : w.heap.size ≤ gb122)); replace HB := am (below_step q0 hb); clear hb hbox hg)))
 (try simp only [Act.put, la, lb, lc])
 go_cut [21] (fun v21 wc => ∃ (kq : Nat) (x21_3 : Bool), v21 = .bool x21_3 ∧ Aside0 (spec_Look.j0 kq a1 a2 x21_3 a0_0 a0_1 l0_2 = some (r1, r2)) ∧ Aside0 (kq ≤ k) ∧ Aside0 (wc.heap[gb122]? = some (.cells #[.int .i64 a0_0, .int .i64 a0_1, (.slice A0_2 l0_2.length c0_2)] 30 (0, 0))) ∧ Aside0 (Below w.heap.size w wc))
 case first =>
   have H := HC4.out
   clear HC4
   replace H := Option.bind_eq_some_iff.mp H
   obtain ⟨t123, A60, H⟩ := H
   have A6 := am A60
   clear A60
   by_cases c7 : t123 = true
   rotate_left
   · replace c7 := Bool.eq_false_iff.mpr c7
     subst c7
     rw [nf] at H
     have H' := am H
     clear H
     obtain ⟨hcz15_0, hcz15_1, hcz15_2⟩ := bc3 w5 BK122.out
     go_wp2_with (first | (first | (go_at_call 27; (with_reducible refine (spec_SessionsOk.calls k a0_0 a0_1 _ _ l0_2 false _ ?side1 ?side2 A6.out).mono ?_); (case side1 => exact q5); (case side2 => exact HC0_2.out); rintro e w16 ⟨rfl, hb⟩; replace BK122 := am (blk_below (g := gb122) (o := .cells #[.int .i64 a0_0, .int .i64 a0_1, .slice A0_2 l0_2.length c0_2] 30 (0, 0)) u3_1 hb); replace HB := am (below_step q0 hb); (try clear hb); (try clear hb2); (try clear hk); (try clear hi))) | go_quiet (first | (go_at_call 27; (with_reducible refine (spec_SessionsOk.calls k a0_0 a0_1 _ _ l0_2 false _ ?side1 ?side2 A6.out).mono ?_); (case side1 => exact q5); (case side2 => exact HC0_2.out); rintro e w16 ⟨rfl, hb⟩; replace BK122 := am (blk_below (g := gb122) (o := .cells #[.int .i64 a0_0, .int .i64 a0_1, .slice A0_2 l0_2.length c0_2] 30 (0, 0)) u3_1 hb); replace HB := am (below_step q0 hb); (try clear hb); (try clear hb2); (try clear hk); (try clear hi))))
     go_meet
     case rel => exact ⟨_, (true), q4, H', ⟨by first | omega | exact Nat.le_refl _⟩, ⟨u3_1⟩, ⟨q0⟩⟩
   subst c7
   rw [if_pos rfl] at H
   replace H := Option.bind_eq_some_iff.mp H
   obtain ⟨t124, A80, H⟩ := H
   have A8 := am A80
   clear A80
   by_cases c9 : t124 = true
   rotate_left
   · replace c9 := Bool.eq_false_iff.mpr c9
     subst c9
     rw [nf] at H
     have H' := am H
     clear H
     obtain ⟨hcz13_0, hcz13_1, hcz13_2⟩ := bc3 w5 BK122.out
     go_wp2_with (first | (first | (go_at_call 27; (with_reducible refine (spec_SessionsOk.calls k a0_0 a0_1 _ _ l0_2 true _ ?side1 ?side2 A6.out).mono ?_); (case side1 => exact q5); (case side2 => exact HC0_2.out); rintro e w14 ⟨rfl, hb⟩; replace BK122 := am (blk_below (g := gb122) (o := .cells #[.int .i64 a0_0, .int .i64 a0_1, .slice A0_2 l0_2.length c0_2] 30 (0, 0)) u3_1 hb); replace HB := am (below_step q0 hb); (try clear hb); (try clear hb2); (try clear hk); (try clear hi)) | (go_at_call 50; (with_reducible refine (spec_l01In.calls a1 1 999 false _ A8.out).mono ?_); rintro e w' ⟨rfl, ⟨nd, rfl⟩⟩; (try first | exact ⟨rfl, _, World.drewN_drewN _ _ _⟩ | exact ⟨rfl, _, Eq.trans (World.drewN_drewN _ _ _) (congrArg (World.drewN _) (Nat.add_assoc _ _ _))⟩))) | go_quiet (first | (go_at_call 27; (with_reducible refine (spec_SessionsOk.calls k a0_0 a0_1 _ _ l0_2 true _ ?side1 ?side2 A6.out).mono ?_); (case side1 => exact q5); (case side2 => exact HC0_2.out); rintro e w14 ⟨rfl, hb⟩; replace BK122 := am (blk_below (g := gb122) (o := .cells #[.int .i64 a0_0, .int .i64 a0_1, .slice A0_2 l0_2.length c0_2] 30 (0, 0)) u3_1 hb); replace HB := am (below_step q0 hb); (try clear hb); (try clear hb2); (try clear hk); (try clear hi)) | (go_at_call 50; (with_reducible refine (spec_l01In.calls a1 1 999 false _ A8.out).mono ?_); rintro e w' ⟨rfl, ⟨nd, rfl⟩⟩; (try first | exact ⟨rfl, _, World.drewN_drewN _ _ _⟩ | exact ⟨rfl, _, Eq.trans (World.drewN_drewN _ _ _) (congrArg (World.drewN _) (Nat.add_assoc _ _ _))⟩))))
     go_meet
     case rel => exact ⟨_, (true), q4, H', ⟨by first | omega | exact Nat.le_refl _⟩, ⟨u3_1⟩, ⟨q0⟩⟩
   subst c9
   rw [if_pos rfl] at H
   replace H := Option.bind_eq_some_iff.mp H
   obtain ⟨t125, A100, H⟩ := H
   replace H : (spec_Look.j0 k a1 a2 (!t125) a0_0 a0_1 l0_2) = some (r1, r2) := H
   have A10 := am A100
   clear A100
   have H' := am H
   clear H
   obtain ⟨hcz11_0, hcz11_1, hcz11_2⟩ := bc3 w5 BK122.out
   go_wp2_with (first | (first | (go_at_call 27; (with_reducible refine (spec_SessionsOk.calls k a0_0 a0_1 _ _ l0_2 true _ ?side1 ?side2 A6.out).mono ?_); (case side1 => exact q5); (case side2 => exact HC0_2.out); rintro e w12 ⟨rfl, hb⟩; replace BK122 := am (blk_below (g := gb122) (o := .cells #[.int .i64 a0_0, .int .i64 a0_1, .slice A0_2 l0_2.length c0_2] 30 (0, 0)) u3_1 hb); replace HB := am (below_step q0 hb); (try clear hb); (try clear hb2); (try clear hk); (try clear hi)) | (go_at_call 50; (with_reducible refine (spec_l01In.calls a1 1 999 true _ A8.out).mono ?_); rintro e w' ⟨rfl, ⟨nd, rfl⟩⟩; (try first | exact ⟨rfl, _, World.drewN_drewN _ _ _⟩ | exact ⟨rfl, _, Eq.trans (World.drewN_drewN _ _ _) (congrArg (World.drewN _) (Nat.add_assoc _ _ _))⟩)) | (go_at_call 50; (with_reducible refine (spec_l01In.calls a2 1 1000000 t125 _ A10.out).mono ?_); rintro e w' ⟨rfl, ⟨nd, rfl⟩⟩; (try first | exact ⟨rfl, _, World.drewN_drewN _ _ _⟩ | exact ⟨rfl, _, Eq.trans (World.drewN_drewN _ _ _) (congrArg (World.drewN _) (Nat.add_assoc _ _ _))⟩))) | go_quiet (first | (go_at_call 27; (with_reducible refine (spec_SessionsOk.calls k a0_0 a0_1 _ _ l0_2 true _ ?side1 ?side2 A6.out).mono ?_); (case side1 => exact q5); (case side2 => exact HC0_2.out); rintro e w12 ⟨rfl, hb⟩; replace BK122 := am (blk_below (g := gb122) (o := .cells #[.int .i64 a0_0, .int .i64 a0_1, .slice A0_2 l0_2.length c0_2] 30 (0, 0)) u3_1 hb); replace HB := am (below_step q0 hb); (try clear hb); (try clear hb2); (try clear hk); (try clear hi)) | (go_at_call 50; (with_reducible refine (spec_l01In.calls a1 1 999 true _ A8.out).mono ?_); rintro e w' ⟨rfl, ⟨nd, rfl⟩⟩; (try first | exact ⟨rfl, _, World.drewN_drewN _ _ _⟩ | exact ⟨rfl, _, Eq.trans (World.drewN_drewN _ _ _) (congrArg (World.drewN _) (Nat.add_assoc _ _ _))⟩)) | (go_at_call 50; (with_reducible refine (spec_l01In.calls a2 1 1000000 t125 _ A10.out).mono ?_); rintro e w' ⟨rfl, ⟨nd, rfl⟩⟩; (try first | exact ⟨rfl, _, World.drewN_drewN _ _ _⟩ | exact ⟨rfl, _, Eq.trans (World.drewN_drewN _ _ _) (congrArg (World.drewN _) (Nat.add_assoc _ _ _))⟩))))
   go_meet
   case rel => exact ⟨_, (!t125), q4, H', ⟨by first | omega | exact Nat.le_refl _⟩, ⟨u3_1⟩, ⟨q0⟩⟩
 clear HC4
 obtain ⟨kq, x21_3, rfl, HA, HJ3, BK122, HB⟩ := hcut
 cases kq with
 | zero => exact absurd HA.out (by simp [spec_Look.j0])
 | succ kj3 =>
   have H := HA.out
   clear HA
   simp only [spec_Look.j0] at H
   by_cases c17 : x21_3 = true
   · subst c17
     rw [if_pos rfl] at H
     simp only [Option.some.injEq, Prod.mk.injEq] at H
     obtain ⟨rfl, rfl⟩ := H
     go_wp2
     repeat (go_quiet (fail); try go_wp2)
     go_ret2
     exact ⟨er, q0⟩
   replace c17 := Bool.eq_false_iff.mpr c17
   subst c17
   rw [nf] at H
   replace H := Option.bind_eq_some_iff.mp H
   obtain ⟨⟨t126, t127, t128, t129⟩, A180, H⟩ := H
   (try dsimp only at H)
   have A18 := am A180
   clear A180
   have H9 := am H
   clear H
   obtain ⟨hcz19_0, hcz19_1, hcz19_2⟩ := bc3 wc BK122.out
   go_upto_if 25 with (first | (go_at_call 51; (with_reducible refine (spec_l09Find.calls kj3 a0_0 a0_1 _ _ l0_2 a1 t126 t127 t128 t129 _ ?side1 ?side2 A18.out).mono ?_); (case side1 => exact q5); (case side2 => exact HC0_2.out); rintro e w20 ⟨rfl, hb⟩; replace BK122 := am (blk_below (g := gb122) (o := .cells #[.int .i64 a0_0, .int .i64 a0_1, .slice A0_2 l0_2.length c0_2] 30 (0, 0)) u3_1 hb); replace HB := am (below_step q0 hb); (try clear hb); (try clear hb2); (try clear hk); (try clear hi)) | ((with_reducible refine gate_dst (N := 8) rfl ?_); refine box_event ?hg (N := 8) ?hd (cs := #[.int .i64 0, .int .i64 0, .int .i64 0, .string (⟨#[]⟩ : ByteArray)]) (t := 54) ?hr ?_; (case hd => rfl); (case hg => rfl); (case hr => first | (go_simp; done) | (go_simp; rfl)); intro gb130 hg w21 hbox hb; have BK130 := am (hbox); have GW130 := am ((by rw [hg]; exact (below_size q0) : w.heap.size ≤ gb130)); have GE130 := am ((by rw [hg]; exact (below_size q0) : w.heap.size ≤ gb130)); replace HB := am (below_step q0 hb); have NB122_130 := am ((by rw [hg]; exact Nat.ne_of_lt (blk_lt (g := gb122) (o := .cells #[.int .i64 a0_0, .int .i64 a0_1, .slice A0_2 l0_2.length c0_2] 30 (0, 0)) u3_1) : gb122 ≠ gb130)); have NB130_122 := am ((by rw [hg]; exact Nat.ne_of_gt (blk_lt (g := gb122) (o := .cells #[.int .i64 a0_0, .int .i64 a0_1, .slice A0_2 l0_2.length c0_2] 30 (0, 0)) u3_1) : gb130 ≠ gb122)); replace BK122 := am (blk_below (g := gb122) (o := .cells #[.int .i64 a0_0, .int .i64 a0_1, .slice A0_2 l0_2.length c0_2] 30 (0, 0)) u3_1 hb); clear hb hbox hg; have hnb22 := NB130_122.out; have hnc22 := NB122_130.out; obtain ⟨hcz23_0, hcz23_1, hcz23_2, hcz23_3, hfz23_0, hfz23_1, hfz23_2, hfz23_3⟩ := bc4f w21 BK130.out))
   repeat (go_quiet (first | (go_at_call 51; (with_reducible refine (spec_l09Find.calls kj3 a0_0 a0_1 _ _ l0_2 a1 t126 t127 t128 t129 _ ?side1 ?side2 A18.out).mono ?_); (case side1 => exact q5); (case side2 => exact HC0_2.out); rintro e w20 ⟨rfl, hb⟩; replace BK122 := am (blk_below (g := gb122) (o := .cells #[.int .i64 a0_0, .int .i64 a0_1, .slice A0_2 l0_2.length c0_2] 30 (0, 0)) u3_1 hb); replace HB := am (below_step q0 hb); (try clear hb); (try clear hb2); (try clear hk); (try clear hi)) | ((with_reducible refine gate_dst (N := 8) rfl ?_); refine box_event ?hg (N := 8) ?hd (cs := #[.int .i64 0, .int .i64 0, .int .i64 0, .string (⟨#[]⟩ : ByteArray)]) (t := 54) ?hr ?_; (case hd => rfl); (case hg => rfl); (case hr => first | (go_simp; done) | (go_simp; rfl)); intro gb130 hg w21 hbox hb; have BK130 := am (hbox); have GW130 := am ((by rw [hg]; exact (below_size q0) : w.heap.size ≤ gb130)); have GE130 := am ((by rw [hg]; exact (below_size q0) : w.heap.size ≤ gb130)); replace HB := am (below_step q0 hb); have NB122_130 := am ((by rw [hg]; exact Nat.ne_of_lt (blk_lt (g := gb122) (o := .cells #[.int .i64 a0_0, .int .i64 a0_1, .slice A0_2 l0_2.length c0_2] 30 (0, 0)) u3_1) : gb122 ≠ gb130)); have NB130_122 := am ((by rw [hg]; exact Nat.ne_of_gt (blk_lt (g := gb122) (o := .cells #[.int .i64 a0_0, .int .i64 a0_1, .slice A0_2 l0_2.length c0_2] 30 (0, 0)) u3_1) : gb130 ≠ gb122)); replace BK122 := am (blk_below (g := gb122) (o := .cells #[.int .i64 a0_0, .int .i64 a0_1, .slice A0_2 l0_2.length c0_2] 30 (0, 0)) u3_1 hb); clear hb hbox hg; have hnb22 := NB130_122.out; have hnc22 := NB122_130.out; obtain ⟨hcz23_0, hcz23_1, hcz23_2, hcz23_3, hfz23_0, hfz23_1, hfz23_2, hfz23_3⟩ := bc4f w21 BK130.out)); go_upto_if 25 with (first | (go_at_call 51; (with_reducible refine (spec_l09Find.calls kj3 a0_0 a0_1 _ _ l0_2 a1 t126 t127 t128 t129 _ ?side1 ?side2 A18.out).mono ?_); (case side1 => exact q5); (case side2 => exact HC0_2.out); rintro e w20 ⟨rfl, hb⟩; replace BK122 := am (blk_below (g := gb122) (o := .cells #[.int .i64 a0_0, .int .i64 a0_1, .slice A0_2 l0_2.length c0_2] 30 (0, 0)) u3_1 hb); replace HB := am (below_step q0 hb); (try clear hb); (try clear hb2); (try clear hk); (try clear hi)) | ((with_reducible refine gate_dst (N := 8) rfl ?_); refine box_event ?hg (N := 8) ?hd (cs := #[.int .i64 0, .int .i64 0, .int .i64 0, .string (⟨#[]⟩ : ByteArray)]) (t := 54) ?hr ?_; (case hd => rfl); (case hg => rfl); (case hr => first | (go_simp; done) | (go_simp; rfl)); intro gb130 hg w21 hbox hb; have BK130 := am (hbox); have GW130 := am ((by rw [hg]; exact (below_size q0) : w.heap.size ≤ gb130)); have GE130 := am ((by rw [hg]; exact (below_size q0) : w.heap.size ≤ gb130)); replace HB := am (below_step q0 hb); have NB122_130 := am ((by rw [hg]; exact Nat.ne_of_lt (blk_lt (g := gb122) (o := .cells #[.int .i64 a0_0, .int .i64 a0_1, .slice A0_2 l0_2.length c0_2] 30 (0, 0)) u3_1) : gb122 ≠ gb130)); have NB130_122 := am ((by rw [hg]; exact Nat.ne_of_gt (blk_lt (g := gb122) (o := .cells #[.int .i64 a0_0, .int .i64 a0_1, .slice A0_2 l0_2.length c0_2] 30 (0, 0)) u3_1) : gb130 ≠ gb122)); replace BK122 := am (blk_below (g := gb122) (o := .cells #[.int .i64 a0_0, .int .i64 a0_1, .slice A0_2 l0_2.length c0_2] 30 (0, 0)) u3_1 hb); clear hb hbox hg; have hnb22 := NB130_122.out; have hnc22 := NB122_130.out; obtain ⟨hcz23_0, hcz23_1, hcz23_2, hcz23_3, hfz23_0, hfz23_1, hfz23_2, hfz23_3⟩ := bc4f w21 BK130.out)))
   have H := H9.out
   clear H9
   by_cases c24 : a2 = (wrap64 (t127 + 1))
   · rw [if_pos c24] at H
     have c24b0 : (a2 == (wrap64 (t127 + 1))) = true := beq_iff_eq.mpr c24
     have c24b1 : (a2 != (wrap64 (t127 + 1))) = false := bne_eq_false_iff_eq.mpr c24
     clear c24
     (first | rw [c24b0] | (simp only [i64_w, i32_w]; rw [c24b0]) | skip)
     simp only [Option.some.injEq, Prod.mk.injEq] at H
     obtain ⟨rfl, rfl⟩ := H
     go_wp2
     repeat (go_quiet (fail); try go_wp2)
     go_ret2
     exact ⟨er, q0⟩
   rw [if_neg c24] at H
   have c24b0 : (a2 == (wrap64 (t127 + 1))) = false := beq_eq_false_iff_ne.mpr c24
   have c24b1 : (a2 != (wrap64 (t127 + 1))) = true := bne_iff_ne.mpr c24
   (first | rw [c24b0] | (simp only [i64_w, i32_w]; rw [c24b0]) | skip)
   by_cases c25 : a2 = t127
   · rw [if_pos c25] at H
     have c25b0 : (a2 == t127) = true := beq_iff_eq.mpr c25
     have c25b1 : (a2 != t127) = false := bne_eq_false_iff_eq.mpr c25
     clear c25
     simp only [Option.some.injEq, Prod.mk.injEq] at H
     obtain ⟨rfl, rfl⟩ := H
     have hnb26 := NB130_122.out
     have hnc26 := NB122_130.out
     obtain ⟨hcz27_0, hcz27_1, hcz27_2, hcz27_3, hfz27_0, hfz27_1, hfz27_2, hfz27_3⟩ := bc4f w21 BK130.out
     go_wp2
     repeat (go_quiet (fail); try go_wp2)
     go_ret2
     exact ⟨er, q0⟩
   rw [if_neg c25] at H
   have c25b0 : (a2 == t127) = false := beq_eq_false_iff_ne.mpr c25
   have c25b1 : (a2 != t127) = true := bne_iff_ne.mpr c25
   by_cases c28 : a2 < t127
   · rw [if_pos c28] at H
     have c28b0 : decide (a2 < t127) = true := decide_eq_true c28
     clear c28
     simp only [Option.some.injEq, Prod.mk.injEq] at H
     obtain ⟨rfl, rfl⟩ := H
     have hnb29 := NB130_122.out
     have hnc29 := NB122_130.out
     obtain ⟨hcz30_0, hcz30_1, hcz30_2, hcz30_3, hfz30_0, hfz30_1, hfz30_2, hfz30_3⟩ := bc4f w21 BK130.out
     go_wp2
     repeat (go_quiet (fail); try go_wp2)
     go_ret2
     exact ⟨er, q0⟩
   rw [if_neg c28] at H
   have c28b0 : decide (a2 < t127) = false := decide_eq_false c28
   clear c28
   simp only [Option.some.injEq, Prod.mk.injEq] at H
   obtain ⟨rfl, rfl⟩ := H
   have hnb31 := NB130_122.out
   have hnc31 := NB122_130.out
   obtain ⟨hcz32_0, hcz32_1, hcz32_2, hcz32_3, hfz32_0, hfz32_1, hfz32_2, hfz32_3⟩ := bc4f w21 BK130.out
   go_wp2
   repeat (go_quiet (fail); try go_wp2)
   go_ret2
   exact ⟨er, q0⟩

end Go.Proofs.YtjdpifafijcpbaaDoor.QFnOnce
